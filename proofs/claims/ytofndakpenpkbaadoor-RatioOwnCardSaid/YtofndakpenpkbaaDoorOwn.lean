/- RatioOwn: rows that are handed in, the room behind them too, read as they did. -/
import Derived.Laws.MakeOwn
import Derived.Laws.Entries
import Derived.Maps.AppendAt
import Derived.Test.YtofndakpenpkbaaDoorRowL
import Derived.OpenShut
namespace Go.Proofs.YtofndakpenpkbaaDoor.PA
open Go.RowKit Go.ChangeShapes Go.WideShapes Go.Proofs.YtofndakpenpkbaaDoorW.PrintWords Go.Proofs.YtofndakpenpkbaaDoorW.PrintLast Go.Proofs.YtofndakpenpkbaaDoorW.PrintMore Go.Proofs.YtofndakpenpkbaaDoor.PSn
attribute [local go_sem high] eqA24
set_option linter.unusedSimpArgs false
set_option linter.unusedVariables false
theorem make_own {P : Program} (t e : TypeId) (i : TypeInfo) (z : Value) (ht : P.underlying t = some (.slice e)) (hi : P.info? e = some i) (hz : i.zero = some z)
    (kl kc : IntKind) (n c : Nat) (hnc : n ≤ c) (hbytes : i.bytes * c ≤ 281474976710656) (h63 : c ≤ 9223372036854775807) (w : World) :
    (Instr.makeSlice t (.int kl (n : Int)) (.int kc (c : Int))).run P w = .ok (.slice (some ⟨w.heap.size, 0, none⟩) n c) (w.alloc (.cells (madeCells z.cells (c * i.size)) e)) := by
  have hb : (i.bytes : Int) * (c : Int) ≤ 281474976710656 := by
    have h : ((i.bytes * c : Nat) : Int) ≤ 281474976710656 := by omega
    rwa [Int.natCast_mul] at h
  have hr := run_make (P := P) w t e i z ht hi hz kl kc n c (by omega) (by omega) hb (by omega)
  simp only [Int.toNat_natCast] at hr
  exact hr
theorem append_at {P : Program} {w : World} {ops : Array Oper} {rest : List Oper} {o : Oper} {a : Act} {Q : Exit → Act → World → Prop} (hgd : o.guard = none) (s x : Operand) (t : TypeId)
    (ho : o.op = .call { callee := .builtin .append, args := #[s, x], argTypes := #[t, t] }) (v u v' : Value) (w' : World) (hs : a.eval s = v) (hx : a.eval x = u)
    (hr : (Builtin.append_ #[t, t] o.type #[v, u]).run P w = .ok v' w') (h : wpList P ops Q rest (a.put o.dst v') w') :
    wpList P ops Q (o :: rest) a w := by
  refine wpList_plain hgd fun K hK => ?_
  unfold Oper.wp execOp
  simp only [ho, resolve, invoke, builtin, Sem.run_bind, Sem.run_pure, Result.andThen_ok, List.map_toArray, List.map_cons, List.map_nil, hs, hx, hr]
  exact hK _ _ h
set_option maxHeartbeats 8000000 in
set_option maxRecDepth 100000 in
theorem own_many (A : Option Addr) (n cap : Nat) (w : World) (h : 3000 < n) :
    Calls Tryd.prog 9 #[.slice A n cap] w fun e w' => e = .returned (.bool true) ∧ Below w.heap.size w w' := by
  have M0 := Lib.hid known_any
  have h2 : decide ((n : Int) > 3000) = true := decide_eq_true (by omega)
  have h3 : decide (3000 < n) = true := decide_eq_true (by omega)
  go_enter Tryd.func9, Tryd.ntmps9
  go_wp2_with fail
  with_reducible refine (M0.out _).mono ?_
  rintro e w1 ⟨rfl, hb1⟩
  go_wp2
  go_ret
  exact ⟨rfl, hb1⟩
def flatR (l : List PSn.S24) : List Value := l.flatMap fun r => [.int .i64 r.f0, .int .i64 r.f1]
theorem flat_len (l : List PSn.S24) : (flatR l).length = l.length * 2 := by
  induction l with
  | nil => rfl
  | cons r l ih => simp only [flatR, List.flatMap_cons, List.length_append, List.length_cons, List.length_nil] at ih ⊢; omega
theorem flat_at (l : List PSn.S24) : ∀ (j : Nat) (h : j < l.length), (flatR l)[j * 2]? = some (.int .i64 l[j].f0) ∧ (flatR l)[j * 2 + 1]? = some (.int .i64 l[j].f1) := by
  induction l with
  | nil => intro j h; exact absurd h (Nat.not_lt_zero _)
  | cons r l ih =>
    intro j h
    have e : flatR (r :: l) = .int .i64 r.f0 :: .int .i64 r.f1 :: flatR l := rfl
    rw [e]
    match j with
    | 0 => exact ⟨rfl, rfl⟩
    | j + 1 =>
      have := ih j (by simpa using h)
      rw [show (j + 1) * 2 = j * 2 + 1 + 1 by omega]
      exact this
theorem flat_one (l : List PSn.S24) : ∀ u ∈ flatR l, u.oneCell' = true := by
  intro u hu
  simp only [flatR, List.mem_flatMap, List.mem_cons, List.not_mem_nil, or_false] at hu
  obtain ⟨r, _, rfl | rfl⟩ := hu <;> rfl
/-- what the row in block g holds: l, and behind it room for three -/
def Mine (l : List PSn.S24) (C : Array Value) : Prop := C.size = (l.length + 3) * 2 ∧ ∀ (j : Nat) (h : j < l.length), C[j * 2]? = some (.int .i64 l[j].f0) ∧ C[j * 2 + 1]? = some (.int .i64 l[j].f1)
theorem Mine.set {l : List PSn.S24} {C : Array Value} (h : Mine l C) (k : Nat) (v : Value) (hk : l.length * 2 ≤ k) : Mine l (C.setIfInBounds k v) := by
  refine ⟨by rw [Array.size_setIfInBounds]; exact h.1, fun j hj => ?_⟩
  have := h.2 j hj
  rw [Array.getElem?_setIfInBounds_ne (by omega), Array.getElem?_setIfInBounds_ne (by omega)]
  exact this
theorem mine_C {l : List PSn.S24} {W : World} {g : Nat} {C : Array Value} (hg : W.heap[g]? = some (.cells C 24 (0, 0))) (hM : Mine l C) (hn : l.length ≤ 3000) : Kd.C PSn.k24 W (some ⟨g, 0, none⟩) l.length l := by
  refine ⟨rfl, by omega, fun _ => ⟨_, rfl, fun j p hj => ?_⟩⟩
  have hjl : j < l.length := by
    by_cases h : j < l.length
    · exact h
    · rw [List.getElem?_eq_none (by omega)] at hj; cases hj
  rw [List.getElem?_eq_getElem hjl] at hj
  cases hj
  have hm := hM.2 j hjl
  refine ⟨[.int .i64 l[j].f0, .int .i64 l[j].f1], rfl, PSn.k24_mk W l[j], fun i u hu => ?_⟩
  have e : ∀ i, (⟨g, 0, none⟩ : Addr).add (j * PSn.k24.sz + i) = ⟨g, j * 2 + i, none⟩ := fun i => by
    show (⟨g, 0, none⟩ : Addr).add (j * 2 + i) = _
    rw [Addr.add_lit, Nat.zero_add]
  rw [e]
  match i, hu with
  | 0, hu => cases hu; exact Hand.cell_of hg _ _ hm.1
  | 1, hu => cases hu; exact Hand.cell_of hg _ _ hm.2
theorem own_append (A : Option Addr) (cap : Nat) (l : List PSn.S24) (w w1 : World) (hC : Kd.C PSn.k24 w A l.length l) (hb : Below w.heap.size w w1) (C0 : Array Value) (h0 : C0.size = (l.length + 3) * 2) :
    ∃ W2 C, (∀ ty, (Builtin.append_ #[41, 41] ty #[.slice (some ⟨w1.heap.size, 0, none⟩) 0 (l.length + 3), .slice A l.length cap]).run Tryd.prog (w1.alloc (.cells C0 24)) = .ok (.slice (some ⟨w1.heap.size, 0, none⟩) l.length (l.length + 3)) W2) ∧
      W2.heap[w1.heap.size]? = some (.cells C 24 (0, 0)) ∧ Mine l C ∧ Below w.heap.size w W2 := by
  obtain ⟨i0, hi0, hz0, hs0, hby0⟩ := info_parts PSn.info24
  have hbz := hb.size
  have hg0 : (w1.alloc (.cells C0 24)).heap[w1.heap.size]? = some (.cells C0 24 (0, 0)) := heap_alloc_new w1 _
  have hB0 : Below w.heap.size w (w1.alloc (.cells C0 24)) := hb.alloc hbz _
  cases A with
  | none =>
    by_cases hn : l.length = 0
    · refine ⟨_, C0, fun ty => ?_, hg0, ⟨h0, fun j hj => absurd hj (by omega)⟩, hB0⟩
      rw [hn]
      simp [Builtin.append_, run_underlying Tryd.underlying41, sizeOf, typeInfo, hi0, Builtin.lenOf, Builtin.firstCells, storeCells]
    · obtain ⟨ad, e, _⟩ := PSn.at_T24 hC 0 (by omega) (by omega)
      cases e
  | some a =>
    have hnews : ∀ j u, (flatR l)[j]? = some u → (w1.alloc (.cells C0 24)).cell? (a.add j) = some u := by
      intro j u hj
      have hjl : j < (flatR l).length := by
        by_cases h : j < (flatR l).length
        · exact h
        · rw [List.getElem?_eq_none (by omega)] at hj; cases hj
      rw [flat_len] at hjl
      have hi : j / 2 < l.length := by omega
      obtain ⟨ad, e, h1, h2⟩ := PSn.at_T24 hC ((j / 2 : Nat) : Int) (by omega) (by omega)
      obtain rfl : a = ad := Option.some.inj e
      have hr : PSn.rd_T24 l ((j / 2 : Nat) : Int) = l[j / 2] := rd_at l (j / 2) hi
      rw [hr, Int.toNat_natCast] at h1 h2
      have hf := flat_at l (j / 2) hi
      have step : ∀ p v, w.cell? p = some v → (w1.alloc (.cells C0 24)).cell? p = some v := fun p v h => (hB0.cell (World.block_lt_of_cell? w _ h)).trans h
      by_cases hp : j % 2 = 0
      · have ej : j = j / 2 * 2 := by omega
        rw [ej] at hj ⊢
        rw [hf.1] at hj
        cases hj
        exact step _ _ h1
      · have ej : j = j / 2 * 2 + 1 := by omega
        rw [ej] at hj ⊢
        rw [hf.2] at hj
        cases hj
        rw [← add_field _ _ 1 (by omega)] at h2
        exact step _ _ h2
    have hl : (flatR l).length = l.length * i0.size := by rw [flat_len, hs0]
    have hr := fun ty => run_append_room (P := Tryd.prog) (w1.alloc (.cells C0 24)) 41 ty 24 i0 Tryd.underlying41 hi0 w1.heap.size 0 (l.length + 3) C0 hg0 a l.length cap (flatR l) hl hnews (flat_one l) (by omega) (by rw [flat_len, h0]; omega)
    rw [Nat.zero_mul, Nat.zero_add, Nat.zero_add, flat_len] at hr
    refine ⟨_, _, hr, setRow_heap _ _ _ _ _ _ hg0, ⟨?_, fun j hj => ?_⟩, hB0.trans ⟨rfl, rfl, rfl, by simp [World.setRow], fun k hk => setRow_other _ _ k _ (by omega)⟩⟩
    · simp only [List.size_toArray, List.length_append, List.length_take, List.length_drop, Array.length_toList, flat_len, h0]; omega
    · have hf := flat_at l j hj
      have hfl := flat_len l
      simp only [List.take_zero, List.nil_append, List.getElem?_toArray]
      rw [List.getElem?_append_left (by omega), List.getElem?_append_left (by omega)]
      exact hf
set_option maxHeartbeats 8000000 in
set_option maxRecDepth 100000 in
theorem own_few (A : Option Addr) (cap : Nat) (l : List PSn.S24) (w : World) (hC : Kd.C PSn.k24 w A l.length l) (hcap : l.length ≤ cap) (hl : okL l) (h : l.length ≤ 3000) :
    Calls Tryd.prog 9 #[.slice A l.length cap] w fun e w' => e = .returned (.bool true) ∧ Below w.heap.size w w' := by
  have M0 := Lib.hid known_any
  have HC := Lib.hid hC
  have HL := Lib.hid hl
  clear hC hl
  obtain ⟨n, hn⟩ : ∃ n, n = l.length := ⟨_, rfl⟩
  have hap := fun w1 hb C0 h0 => own_append A cap l w w1 HC.out hb C0 h0
  rw [← hn] at hap h hcap ⊢
  have HAP := Lib.hid hap
  have HN := Lib.hid hn
  clear hap hn
  have h2 : decide ((n : Int) > 3000) = false := decide_eq_false (by omega)
  have h3 : decide (3000 < n) = false := decide_eq_false (by omega)
  obtain ⟨i0, hi0, hz0, hs0, hby0⟩ := info_parts PSn.info24
  have hmk : ∀ W : World, (Instr.makeSlice 41 (.int .i64 0) (.int .i64 ((n : Int) + 3))).run Tryd.prog W = .ok (.slice (some ⟨W.heap.size, 0, none⟩) 0 (n + 3)) (W.alloc (.cells (madeCells #[.int .i64 0, .int .i64 0] ((n + 3) * 2)) 24)) := fun W => by
    have h := make_own (P := Tryd.prog) 41 24 i0 _ Tryd.underlying41 hi0 hz0 .i64 .i64 0 (n + 3) (by omega) (by rw [hby0]; omega) (by omega) W
    rw [hs0] at h
    exact h
  clear hi0 hz0 hs0 hby0
  go_enter Tryd.func9, Tryd.ntmps9
  go_wp2_with fail
  with_reducible refine (M0.out _).mono ?_
  rintro e w1 ⟨rfl, hb1⟩
  obtain ⟨C0, hC0⟩ : ∃ C0, C0 = madeCells #[.int .i64 0, .int .i64 0] ((n + 3) * 2) := ⟨_, rfl⟩
  rw [← hC0] at hmk
  obtain ⟨W2, C, hrun, hg, hM, hB⟩ := HAP.out w1 hb1 C0 (by rw [hC0, size_madeCells])
  have HR := Lib.hid hrun
  clear hrun hC0
  go_wp2_with (at_builtin; (refine append_at rfl (.tmp 16) (.tmp 17) 41 rfl _ _ (.slice (some ⟨w1.heap.size, 0, none⟩) n (n + 3)) W2 rfl rfl (HR.out _) ?_))
  go_loopw [5] (fun i wr => ∃ (k : Nat) (C : Array Value), n ≤ k ∧ k ≤ n + 3 ∧ i = .int .i64 k ∧ wr.heap[w1.heap.size]? = some (.cells C 24 (0, 0)) ∧ Mine l C ∧ (∀ j, n ≤ j → j < k → C[j * 2 + 1]? = some (.int .i64 (-77))) ∧ Below w.heap.size w wr) (fun i _ => n + 3 - (intOf i).toNat)
  case atStart => exact ⟨n, C, by omega, by omega, rfl, hg, hM, fun j h h' => by omega, hB⟩
  case round =>
    obtain ⟨k, C, hk0, hk1, rfl, hg, hM, hF, hB⟩ := hrel
    have HM := Lib.hid hM
    have HF := Lib.hid hF
    clear hM hF
    by_cases hlt : k < n + 3
    · have b1 : decide ((k : Int) < (n : Int) + 3) = true := decide_eq_true (by omega)
      have hs : C.size = (n + 3) * 2 := by rw [HN.out]; exact HM.out.1
      obtain ⟨v0, hv0⟩ : ∃ v, C[k * 2]? = some v := ⟨_, Array.getElem?_eq_getElem (by omega)⟩
      obtain ⟨v1, hv1⟩ : ∃ v, C[k * 2 + 1]? = some v := ⟨_, Array.getElem?_eq_getElem (by omega)⟩
      have c0_ := Hand.cell_of hg _ _ hv0
      have c1_ := Hand.cell_of hg _ _ hv1
      have f0_ := Hand.free_of hg (k * 2)
      have f1_ := Hand.free_of hg (k * 2 + 1)
      clear hs hv0 hv1
      go_wp2
      refine ⟨⟨k + 1, (C.setIfInBounds (k * 2) (.int .i64 (-77))).setIfInBounds (k * 2 + 1) (.int .i64 (-77)), by omega, by omega, rfl, ?_, ?_, ?_, ?_⟩, ?_⟩
      · rw [setCell_eq_setRow _ _ _ _ _ _ _ hg, setCell_eq_setRow _ _ _ _ _ _ _ (setRow_heap _ _ _ _ _ _ hg)]
        exact setRow_heap _ _ _ _ _ _ (setRow_heap _ _ _ _ _ _ hg)
      · exact (HM.out.set _ _ (by rw [← HN.out]; omega)).set _ _ (by rw [← HN.out]; omega)
      · intro j hj hj'
        have hs : C.size = (n + 3) * 2 := by rw [HN.out]; exact HM.out.1
        by_cases hjk : j = k
        · subst hjk
          rw [Array.getElem?_setIfInBounds_self_of_lt (by rw [Array.size_setIfInBounds]; omega)]
        · rw [Array.getElem?_setIfInBounds_ne (by omega), Array.getElem?_setIfInBounds_ne (by omega)]
          exact HF.out j hj (by omega)
      · exact (hB.setCell (by have := hb1.size; dsimp only; omega) _).setCell (by have := hb1.size; dsimp only; omega) _
      · have e : ((k : Int) + 1).toNat = k + 1 := by omega
        simp only [intOf, Int.toNat_natCast, e]; omega
    · have b1 : decide ((k : Int) < (n : Int) + 3) = false := decide_eq_false (by omega)
      have hk : k = n + 3 := by omega
      have hl3 : l.length ≤ 3000 := by rw [← HN.out]; exact h
      have hcl : l.length ≤ n + 3 := by rw [HN.out]; omega
      obtain ⟨sx, sy, sz, hsum⟩ := sum_o l HL.out hl3 (some ⟨w1.heap.size, 0, none⟩) (n + 3) hcl
      obtain ⟨lx, ly, lz, hleast⟩ := least_o l HL.out hl3 (some ⟨w1.heap.size, 0, none⟩) (n + 3) hcl
      obtain ⟨mx, my, mz, hmost⟩ := most_o l HL.out hl3 (some ⟨w1.heap.size, 0, none⟩) (n + 3) hcl
      rw [← HN.out] at hsum hleast hmost
      have SM := Lib.hid hsum
      have LE := Lib.hid hleast
      have MO := Lib.hid hmost
      have H3 := Lib.hid hl3
      have HKC := fun (W : World) (h : W.heap[w1.heap.size]? = some (.cells C 24 (0, 0))) => mine_C h HM.out hl3
      rw [← HN.out] at HKC
      have KC := Lib.hid HKC
      clear hsum hleast hmost HKC hcl
      go_wp2_with fail
      with_reducible refine (SM.out _ (KC.out _ hg)).mono ?_
      rintro e w2 ⟨rfl, hb2⟩
      have hg2 := Hand.kb hb2 hg
      have hB2 := hB.trans (Below.mono hb2 hB.size)
      clear hb2
      go_wp2_with fail
      with_reducible refine (LE.out _ (KC.out _ hg2)).mono ?_
      rintro e w3 ⟨rfl, hb3⟩
      have hg3 := Hand.kb hb3 hg2
      have hB3 := hB2.trans (Below.mono hb3 hB2.size)
      clear hb3
      go_wp2_with fail
      with_reducible refine (MO.out _ (KC.out _ hg3)).mono ?_
      rintro e w4 ⟨rfl, hb4⟩
      have hg4 := Hand.kb hb4 hg3
      have hB4 := hB3.trans (Below.mono hb4 hB3.size)
      clear hb4
      go_wp2
      have HF2 : Hid (∀ j, n ≤ j → j < n + 3 → C[j * 2 + 1]? = some (.int .i64 (-77))) := Lib.hid (by rw [← hk]; exact HF.out)
      clear HF hg hg2 hg3 hB hB2 hB3 b1 hlt hk0 hk1
      go_loopw [6] (fun i wr => ∃ j : Nat, j ≤ n + 3 ∧ i = .int .i64 j ∧ wr.heap[w1.heap.size]? = some (.cells C 24 (0, 0)) ∧ Below w.heap.size w wr) (fun i _ => n + 3 - (intOf i).toNat)
      case atStart => exact ⟨0, by omega, rfl, hg4, hB4⟩
      case round =>
        obtain ⟨j, hj, rfl, hg, hB⟩ := hrel
        by_cases hjn : j < n
        · have b1 : decide ((j : Int) < (n : Int) + 3) = true := decide_eq_true (by omega)
          have b2 : decide ((j : Int) < (n : Int)) = true := decide_eq_true (by omega)
          have b3 : decide ((n : Int) ≤ (j : Int)) = false := decide_eq_false (by omega)
          obtain ⟨x, y, hx, hy, ad, hA, kx, ky⟩ : ∃ x y : Int, C[j * 2]? = some (.int .i64 x) ∧ C[j * 2 + 1]? = some (.int .i64 y) ∧ ∃ ad : Addr, A = some ad ∧ w.cell? (ad.add (j * 2)) = some (.int .i64 x) ∧ w.cell? ⟨(ad.add (j * 2)).block, (ad.add (j * 2)).off + 1, none⟩ = some (.int .i64 y) := by
            have hjl : j < l.length := by rw [← HN.out]; exact hjn
            have hm := HM.out.2 j hjl
            obtain ⟨ad, e, h1, h2⟩ := PSn.at_T24 HC.out ((j : Nat) : Int) (by omega) (by omega)
            rw [rd_at l j hjl, Int.toNat_natCast] at h1 h2
            exact ⟨_, _, hm.1, hm.2, ad, e, h1, h2⟩
          subst hA
          have c0_ := Hand.cell_of hg _ _ hx
          have c1_ := Hand.cell_of hg _ _ hy
          have d0_ := (hB.cell (World.block_lt_of_cell? w _ kx)).trans kx
          have d1_ := (hB.cell (World.block_lt_of_cell? w _ ky)).trans ky
          have p1 : ((j : Int) < (n : Int) + 3) = True := eq_true (by omega)
          have p2 : ((j : Int) < (n : Int)) = True := eq_true (by omega)
          have p3 : ((n : Int) ≤ (j : Int)) = False := eq_false (by omega)
          have p4 : (n ≤ j) = False := eq_false (by omega)
          have p5 : ((j : Int) ≥ (n : Int)) = False := eq_false (by omega)
          clear hx hy kx ky
          go_wp2
          go_quiet (fail)
          go_wp2
          refine ⟨⟨j + 1, by omega, rfl, hg, pw_below_drewN hB _⟩, ?_⟩
          have e : ((j : Int) + 1).toNat = j + 1 := by omega
          simp only [intOf, Int.toNat_natCast, e]; omega
        · by_cases hjn' : j < n + 3
          · have b1 : decide ((j : Int) < (n : Int) + 3) = true := decide_eq_true (by omega)
            have b2 : decide ((j : Int) < (n : Int)) = false := decide_eq_false (by omega)
            have b3 : decide ((n : Int) ≤ (j : Int)) = true := decide_eq_true (by omega)
            have c1_ := Hand.cell_of hg _ _ (HF2.out j (by omega) hjn')
            have p1 : ((j : Int) < (n : Int) + 3) = True := eq_true (by omega)
            have p2 : ((j : Int) < (n : Int)) = False := eq_false (by omega)
            have p2' : (j < n) = False := eq_false (by omega)
            have p3 : ((n : Int) ≤ (j : Int)) = True := eq_true (by omega)
            have p4 : (n ≤ j) = True := eq_true (by omega)
            have p5 : ((j : Int) ≥ (n : Int)) = True := eq_true (by omega)
            go_wp2
            go_quiet (fail)
            go_wp2
            refine ⟨⟨j + 1, by omega, rfl, hg, pw_below_drewN hB _⟩, ?_⟩
            have e : ((j : Int) + 1).toNat = j + 1 := by omega
            simp only [intOf, Int.toNat_natCast, e]; omega
          · have b1 : decide ((j : Int) < (n : Int) + 3) = false := decide_eq_false (by omega)
            go_wp2
            go_ret
            exact ⟨rfl, hB⟩
theorem own_true (A : Option Addr) (cap : Nat) (l : List PSn.S24) (w : World) (hC : Kd.C PSn.k24 w A l.length l) (hc : l.length ≤ cap) (hl : okL l) :
    Calls Tryd.prog 9 #[.slice A l.length cap] w fun e w' => e = .returned (.bool true) ∧ Below w.heap.size w w' := by
  by_cases h : l.length ≤ 3000
  · exact own_few A cap l w hC hc hl h
  · exact own_many A l.length cap w (by omega)
end Go.Proofs.YtofndakpenpkbaaDoor.PA
