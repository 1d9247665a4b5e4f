/- Chapter 6: New's bends in plain lists; what the loop carries. -/
import Derived.Test.YthlpaglldhgmfaaNwH
namespace Go.Proofs.Ythlpaglldhgmfaa.PA
open Go Go.RowKit Go.Proofs.YthlpaglldhgmfaaW.PrintWords Go.Proofs.YthlpaglldhgmfaaW.PrintLast Go.Proofs.YthlpaglldhgmfaaW.PrintMore
set_option linter.unusedSimpArgs false
set_option linter.unusedVariables false
/-- append onto a slice that is full: a new row -/
theorem run_append_full {P : Program} (w : World) (t ty base : Nat) (e : TypeId) (i : TypeInfo) (z : Value) (size bytes : Nat) (ht : P.underlying t = some (.slice e)) (hi : P.info? e = some i) (hz : i.zero = some z)
    (hsize : i.size = size) (hby : i.bytes = bytes) (hzs : z.cells.size = size) (b : Addr) (n : Nat) (olds : List Value) (hlo : olds.length = n * size) (holds : ∀ j v, olds[j]? = some v → w.cell? (b.add j) = some v)
    (ad : Addr) (m c : Nat) (news : List Value) (hl : news.length = m * size) (hnews : ∀ j u, news[j]? = some u → w.cell? (ad.add j) = some u) (hm : 0 < m) (h63 : n + m ≤ 1000000) (hbt : bytes ≤ 1000) (hbase : base ≤ w.heap.size) :
    ∃ g cap w', (Builtin.append_ #[t, t] ty #[.slice (some b) n n, .slice (some ad) m c]).run P w = .ok (.slice (some ⟨g, 0, none⟩) (n + m) cap) w' ∧
      w'.ownsRow base e size (.slice (some ⟨g, 0, none⟩) (n + m) cap) (n + m) (olds ++ news) ∧ w.grownBy w' none ∧ g = w.heap.size ∧ g < w'.heap.size := by
  subst hsize hby
  have hmul : (n + m) * i.bytes ≤ 1000000 * 1000 := Nat.mul_le_mul h63 hbt
  have hr := run_append_grow (P := P) w t ty e i z ht hi hz b n n olds hlo holds ad m c news hl hnews (by omega) (by omega) (growslice_fits (by omega) (by omega))
  have hge : n + m ≤ grownCap w (n + m) n e := grownCap_ge w _ _ _
  have hle : grownCap w (n + m) n e ≤ maxLen := grownCap_le_maxLen w (n + m) n e (by unfold maxLen; omega)
  refine ⟨_, _, _, hr, ⟨by rw [List.length_append, hlo, hl, Nat.add_mul], .inr ⟨_, _, _, rfl, hbase, Hand.q3 _ _ _ rfl, hge, hle, ?_, ?_⟩⟩, ⟨rfl, rfl, rfl, by simp, fun k hk _ => by rw [Hand.q4 _ _ _ (by show k ≠ w.heap.size; omega)]; rfl⟩, rfl, by simp⟩
  · simp only [Array.size_append, List.size_toArray, size_zeroCells, hzs, hlo, hl, ← Nat.add_mul]
    congr 1
    omega
  · have hle2 : (n + m) * i.size = (olds ++ news).length := by rw [List.length_append, hlo, hl, Nat.add_mul]
    rw [hle2]
    simp only [Array.toList_append, List.toList_toArray]
    exact List.take_left
/-- the slope ahead of the next one -/
def lastS (p : Rt) (ss : List Rt) : Rt := (p :: ss).getLast (by simp)
theorem bendF_snoc (s : Rt) (k : Kn) : ∀ (ss : List Rt) (p : Rt) (ks : List Kn), ss.length = ks.length → bendF p (ss ++ [s]) (ks ++ [k]) = bendF p ss ks ++ (if s = lastS p ss then [] else [(k, s)]) := by
  intro ss
  induction ss with
  | nil =>
    intro p ks h
    cases ks with
    | nil =>
      by_cases h : s = p <;> simp [bendF, lastS, h]
    | cons a l => simp at h
  | cons x ss ih =>
    intro p ks h
    cases ks with
    | nil => simp at h
    | cons a ks =>
      have h' : ss.length = ks.length := by simpa using h
      simp only [List.cons_append, bendF, ih x ks h', lastS, List.getLast_cons_cons]
      split
      · rfl
      · simp only [List.cons_append]; rfl
theorem bendF_take : ∀ (ss : List Rt) (p : Rt) (ks : List Kn), bendF p ss (ks.take ss.length) = bendF p ss ks := by
  intro ss
  induction ss with
  | nil => intro p ks; cases ks <;> simp [bendF]
  | cons x ss ih =>
    intro p ks
    cases ks with
    | nil => rfl
    | cons a ks => simp only [List.length_cons, List.take_succ_cons, bendF, ih x ks]
theorem bendF_len : ∀ (ss : List Rt) (p : Rt) (ks : List Kn), (bendF p ss ks).length ≤ ss.length := by
  intro ss
  induction ss with
  | nil => intro p ks; cases ks <;> simp [bendF]
  | cons x ss ih =>
    intro p ks
    cases ks with
    | nil => simp [bendF]
    | cons a ks =>
      simp only [bendF]
      split
      · have := ih x ks; simp only [List.length_cons]; omega
      · have := ih x ks; simp only [List.length_cons]; omega
theorem bendF_mem : ∀ (ss : List Rt) (p : Rt) (ks : List Kn), ∀ x ∈ bendF p ss ks, x.1 ∈ ks ∧ x.2 ∈ ss := by
  intro ss
  induction ss with
  | nil => intro p ks x hx; cases ks <;> simp [bendF] at hx
  | cons s ss ih =>
    intro p ks x hx
    cases ks with
    | nil => simp [bendF] at hx
    | cons a ks =>
      simp only [bendF] at hx
      split at hx
      · have := ih s ks x hx; exact ⟨List.mem_cons_of_mem _ this.1, List.mem_cons_of_mem _ this.2⟩
      · rcases List.mem_cons.mp hx with rfl | hx
        · exact ⟨List.mem_cons_self, List.mem_cons_self⟩
        · have := ih s ks x hx; exact ⟨List.mem_cons_of_mem _ this.1, List.mem_cons_of_mem _ this.2⟩
theorem lastS_take (s0 : Rt) (ss : List Rt) (j : Nat) (h : j < (s0 :: ss).length) : lastS s0 (ss.take j) = (s0 :: ss)[j] := by
  unfold lastS
  rw [List.getLast_eq_getElem]
  have hj : j ≤ ss.length := by simpa using Nat.le_of_lt_succ h
  have e : (s0 :: ss.take j).length - 1 = j := by simp only [List.length_cons, List.length_take]; omega
  simp only [e]
  cases j with
  | zero => rfl
  | succ j => simp
/-- what the loop over slopes carries -/
structure BendsAt (W : World) (gm ga : Nat) (s0 : Rt) (B : List (Kn × Rt)) (vb vs : Value) (wr : World) : Prop where
  own : wr.ownsRow W.heap.size 35 4 vb B.length (flatK (B.map (·.1)))
  nil : B = [] → vb = .slice none 0 0
  some_ : B ≠ [] → ∃ g c, vb = .slice (some ⟨g, 0, none⟩) B.length c
  map : wr.heap[gm]? = some (.cells #[.slice none 0 0, vs, .int .i64 0] 70 (0, 0))
  sl : (B = [] ∧ vs = .slice (some ⟨ga, 0, none⟩) 1 1) ∨ (∃ g c, vs = .slice (some ⟨g, 0, none⟩) (B.length + 1) c ∧ wr.ownsRow W.heap.size 31 2 vs (B.length + 1) (flatT (s0 :: B.map (·.2))))
  dis : ∀ k, vb.ownBlock = some k → vs.ownBlock = some k → False
  fx : Fx gm W wr
theorem BendsAt.drew {W wr : World} {gm ga : Nat} {s0 : Rt} {B : List (Kn × Rt)} {vb vs : Value} (h : BendsAt W gm ga s0 B vb vs wr) : BendsAt W gm ga s0 B vb vs wr.drew :=
  ⟨own_keep h.own fun _ _ => rfl, h.nil, h.some_, h.map, by
    rcases h.sl with ⟨a, b⟩ | ⟨g, c, a, b⟩
    · exact .inl ⟨a, b⟩
    · exact .inr ⟨g, c, a, own_keep b fun _ _ => rfl⟩, h.dis, h.fx.drew⟩
theorem BendsAt.form {W wr : World} {gm ga : Nat} {s0 : Rt} {B : List (Kn × Rt)} {vb vs : Value} (h : BendsAt W gm ga s0 B vb vs wr) : ∃ g c, vs = .slice (some ⟨g, 0, none⟩) (B.length + 1) c := by
  rcases h.sl with ⟨a, b⟩ | ⟨g, c, a, b⟩
  · exact ⟨ga, 1, by rw [b, a]; rfl⟩
  · exact ⟨g, c, a⟩
theorem BendsAt.vs_lt {W wr : World} {gm ga : Nat} {s0 : Rt} {B : List (Kn × Rt)} {vb vs : Value} (h : BendsAt W gm ga s0 B vb vs wr) (hga : ga < W.heap.size) (hne : ga ≠ gm) : ∀ q, vs.ownBlock = some q → q < wr.heap.size ∧ q ≠ gm ∨ q < wr.heap.size ∧ W.heap.size ≤ q := by
  intro q hq
  rcases h.sl with ⟨a, b⟩ | ⟨g, c, a, b⟩
  · rw [b] at hq; simp only [Value.ownBlock, Option.some.injEq] at hq; subst hq; exact .inl ⟨Nat.lt_of_lt_of_le hga h.fx.size, hne⟩
  · have := b.lt q hq; exact .inr ⟨this.2, this.1⟩
/-- behind the append to the bends -/
structure BendsMid (W : World) (gm ga : Nat) (s0 : Rt) (B : List (Kn × Rt)) (k : Kn) (gb cb : Nat) (vs : Value) (w2 : World) : Prop where
  own : w2.ownsRow W.heap.size 35 4 (.slice (some ⟨gb, 0, none⟩) (B.length + 1) cb) (B.length + 1) (flatK (B.map (·.1) ++ [k]))
  map : w2.heap[gm]? = some (.cells #[.slice none 0 0, vs, .int .i64 0] 70 (0, 0))
  sl : (B = [] ∧ vs = .slice (some ⟨ga, 0, none⟩) 1 1) ∨ (∃ g c, vs = .slice (some ⟨g, 0, none⟩) (B.length + 1) c ∧ w2.ownsRow W.heap.size 31 2 vs (B.length + 1) (flatT (s0 :: B.map (·.2))))
  dis : vs.ownBlock ≠ some gb
  fx : Fx gm W w2
theorem BendsAt.mid {W wr : World} {gm ga : Nat} {s0 : Rt} {B : List (Kn × Rt)} {vb vs : Value} (h : BendsAt W gm ga s0 B vb vs wr) (hgm : gm < W.heap.size) (hga : ga < W.heap.size) (hne : ga ≠ gm) (o : Obj) (k : Kn) {gb cb : Nat} {w2 : World}
    (hown : w2.ownsRow W.heap.size 35 4 (.slice (some ⟨gb, 0, none⟩) (B.length + 1) cb) (B.length + 1) (flatK (B.map (·.1)) ++ [.int .i64 k.1.1, .int .i64 k.1.2, .int .i64 k.2.1, .int .i64 k.2.2]))
    (hgrow : (wr.alloc o).grownBy w2 vb.ownBlock) (hat : vb.ownBlock = some gb ∨ gb = (wr.alloc o).heap.size) : BendsMid W gm ga s0 B k gb cb vs w2 := by
  have hv := h.vs_lt hga hne
  have sz : (wr.alloc o).heap.size = wr.heap.size + 1 := by simp
  have hb : ∀ q, vb.ownBlock = some q → W.heap.size ≤ q ∧ q < wr.heap.size := h.own.lt
  have keep : ∀ q, q < wr.heap.size → vb.ownBlock ≠ some q → w2.heap[q]? = wr.heap[q]? := fun q hq hn => by
    rw [hgrow.block q (by omega) (fun e => hn e.symm), Hand.q4 _ _ _ (by omega)]
  refine ⟨by rw [flatK_snoc]; exact hown, ?_, ?_, ?_, ?_⟩
  · rw [keep gm (Nat.lt_of_lt_of_le hgm h.fx.size) (fun e => by have := (hb gm e).1; omega)]; exact h.map
  · rcases h.sl with ⟨a, b⟩ | ⟨g, c, a, b⟩
    · exact .inl ⟨a, b⟩
    · exact .inr ⟨g, c, a, own_keep b fun q hq => keep q (b.lt q hq).2 (fun e => h.dis q e hq)⟩
  · intro e
    rcases hat with ha | ha
    · exact h.dis gb ha e
    · rcases hv gb e with ⟨x, _⟩ | ⟨x, _⟩ <;> omega
  · exact (h.fx.alloc o).grown hgrow (fun q hq => (hb q hq).1)
theorem BendsMid.drew {W w2 : World} {gm ga : Nat} {s0 : Rt} {B : List (Kn × Rt)} {k : Kn} {gb cb : Nat} {vs : Value} (h : BendsMid W gm ga s0 B k gb cb vs w2) : BendsMid W gm ga s0 B k gb cb vs w2.drew :=
  ⟨own_keep h.own fun _ _ => rfl, h.map, by
    rcases h.sl with ⟨a, b⟩ | ⟨g, c, a, b⟩
    · exact .inl ⟨a, b⟩
    · exact .inr ⟨g, c, a, own_keep b fun _ _ => rfl⟩, h.dis, h.fx.drew⟩
set_option maxRecDepth 100000 in
/-- the append to the slopes -/
theorem BendsMid.app {W w2 : World} {gm ga : Nat} {s0 : Rt} {B : List (Kn × Rt)} {k : Kn} {gb cb : Nat} {vs : Value} (h : BendsMid W gm ga s0 B k gb cb vs w2) (hga : ga < W.heap.size) (hne : ga ≠ gm) {all : List Rt} (hA : RtA W ⟨ga, 0, none⟩ (s0 :: all)) (x : Rt) (hlen : B.length ≤ 100) (ty : TypeId) :
    ∃ g cap w', (Builtin.append_ #[23, 23] ty #[vs, .slice (some ⟨w2.heap.size, 0, none⟩) 1 1]).run Try.prog (w2.alloc (.cells #[.int .i64 x.1, .int .i64 x.2] 31)) = .ok (.slice (some ⟨g, 0, none⟩) (B.length + 1 + 1) cap) w' ∧
      w'.ownsRow W.heap.size 31 2 (.slice (some ⟨g, 0, none⟩) (B.length + 1 + 1) cap) (B.length + 1 + 1) (flatT (s0 :: (B.map (·.2) ++ [x]))) ∧ (∃ row, (w2.alloc (.cells #[.int .i64 x.1, .int .i64 x.2] 31)).grownBy w' row ∧ ∀ q, row = some q → W.heap.size ≤ q ∧ vs.ownBlock = some q) ∧ (vs.ownBlock = some g ∨ g = w2.heap.size + 1) ∧ g < w'.heap.size := by
  have sz : ∀ o, (w2.alloc o).heap.size = w2.heap.size + 1 := fun o => by simp
  have fl : flatT (s0 :: (B.map (·.2) ++ [x])) = flatT (s0 :: B.map (·.2)) ++ [.int .i64 x.1, .int .i64 x.2] := by rw [← flatT_snoc]; rfl
  rw [fl]
  have hW := h.fx.size
  rcases h.sl with ⟨a, b⟩ | ⟨g, c, a, b⟩
  · subst a b
    have hc : ∀ j v, (flatT [s0])[j]? = some v → (w2.alloc (.cells #[.int .i64 x.1, .int .i64 x.2] 31)).cell? ((⟨ga, 0, none⟩ : Addr).add j) = some v := by
      intro j v hv
      have hj : j < 2 := (List.getElem?_eq_some_iff.1 hv).1
      have z := (hA.f2 (F2.of_fx gm h.fx) hne hne).zero
      rw [add0, World.cell?_alloc_lt _ _ _ (by dsimp only; omega)]
      rcases (by omega : j = 0 ∨ j = 1) with rfl | rfl
      · cases hv; exact z.1
      · cases hv; exact z.2
    obtain ⟨g, cap, w', r1, r2, r3, r4, r5⟩ := run_append_full (P := Try.prog) (w2.alloc (.cells #[.int .i64 x.1, .int .i64 x.2] 31)) 23 ty W.heap.size 31 _ (.agg #[.int .i64 0, .int .i64 0]) 2 16 Try.underlying23 rfl rfl rfl rfl rfl ⟨ga, 0, none⟩ 1 (flatT [s0]) rfl hc ⟨w2.heap.size, 0, none⟩ 1 1 [.int .i64 x.1, .int .i64 x.2] rfl (World.news_of_block (Hand.q3 _ _ _ rfl)) (by decide) (by decide) (by decide) (by rw [sz]; omega)
    exact ⟨g, cap, w', r1, r2, ⟨none, r3, fun q hq => by cases hq⟩, .inr (by rw [r4, sz]), r5⟩
  · obtain ⟨g', cap, w', r1, r2, r3, r4, r5⟩ := run_append_lies (P := Try.prog) (w2.alloc (.cells #[.int .i64 x.1, .int .i64 x.2] 31)) 23 ty W.heap.size 31 _ (.agg #[.int .i64 0, .int .i64 0]) 2 16 Try.underlying23 rfl rfl rfl rfl rfl (by decide) vs (B.length + 1) _ (own_below b ((Below.refl _ _).alloc (Nat.le_refl _) _)) ⟨w2.heap.size, 0, none⟩ 1 1 [.int .i64 x.1, .int .i64 x.2] rfl (World.news_of_block (Hand.q3 _ _ _ rfl)) (by intro u hu; simp at hu; rcases hu with rfl | rfl <;> rfl) (by decide) (by unfold maxLen; omega) (by omega) (by rw [sz]; omega) _ rfl
    exact ⟨g', cap, w', r1, r2, ⟨_, r3, fun q hq => ⟨(b.lt q hq).1, hq⟩⟩, by rw [sz] at r4; exact r4, r5⟩
/-- behind both appends and the store -/
theorem BendsMid.next {W w2 w3 : World} {gm ga : Nat} {s0 : Rt} {B : List (Kn × Rt)} {k : Kn} {gb cb : Nat} {vs : Value} (h : BendsMid W gm ga s0 B k gb cb vs w2) (hgm : gm < W.heap.size) (hga : ga < W.heap.size) (hne : ga ≠ gm) (x : Rt) (o : Obj) {g cap : Nat}
    (hown : w3.ownsRow W.heap.size 31 2 (.slice (some ⟨g, 0, none⟩) (B.length + 1 + 1) cap) (B.length + 1 + 1) (flatT (s0 :: (B.map (·.2) ++ [x])))) {row : Option Nat} (hgrow : (w2.alloc o).grownBy w3 row) (hrow : ∀ q, row = some q → W.heap.size ≤ q ∧ vs.ownBlock = some q) (hat : vs.ownBlock = some g ∨ g = w2.heap.size + 1) :
    BendsAt W gm ga s0 (B ++ [(k, x)]) (.slice (some ⟨gb, 0, none⟩) (B.length + 1) cb) (.slice (some ⟨g, 0, none⟩) (B.length + 1 + 1) cap) (w3.setCell ⟨gm, 1, none⟩ (.slice (some ⟨g, 0, none⟩) (B.length + 1 + 1) cap)) := by
  have sz : (w2.alloc o).heap.size = w2.heap.size + 1 := by simp
  have hW := h.fx.size
  have hq : ∀ q, vs.ownBlock = some q → q < w2.heap.size ∧ q ≠ gm := by
    intro q hq
    rcases h.sl with ⟨a, b⟩ | ⟨g, c, a, b⟩
    · rw [b] at hq; simp only [Value.ownBlock, Option.some.injEq] at hq; subst hq; exact ⟨by omega, hne⟩
    · have := b.lt q hq; exact ⟨this.2, by omega⟩
  have keep2 : ∀ q, q < w2.heap.size → row ≠ some q → w3.heap[q]? = w2.heap[q]? := fun q hq hn => by
    rw [hgrow.block q (by omega) (fun e => hn e.symm), Hand.q4 _ _ _ (by omega)]
  have keep : ∀ q, q < w2.heap.size → vs.ownBlock ≠ some q → w3.heap[q]? = w2.heap[q]? := fun q hq hn => keep2 q hq (fun e => hn (hrow q e).2)
  have hgmg : gm ≠ g := by have := (hown.lt g rfl).1; omega
  have hgbz := h.own.lt gb rfl
  have ne1 : vs.ownBlock ≠ some gm := fun e => (hq gm e).2 rfl
  have nb : (B ++ [(k, x)]).length = B.length + 1 := by simp
  have fx3 : Fx gm W w3 := by
    refine ⟨hgrow.os.trans h.fx.os, hgrow.tape.trans h.fx.tape, hgrow.output.trans h.fx.output, by have := hgrow.size; omega, fun q hq1 hq2 => ?_⟩
    rw [keep2 q (by omega) (fun e => by have := (hrow q e).1; omega)]
    exact h.fx.block q hq1 hq2
  refine ⟨?_, ?_, ?_, ?_, ?_, ?_, ?_⟩
  · rw [nb, List.map_append]
    exact own_keep h.own fun q hq => by cases hq; rw [Hand.q2 _ _ _ _ _ (by have := hgbz.1; dsimp only; omega)]; exact keep gb hgbz.2 h.dis
  · intro e; simp at e
  · intro _; exact ⟨gb, cb, by rw [nb]⟩
  · rw [Hand.q1, keep gm (by omega) ne1, h.map]; rfl
  · refine .inr ⟨g, cap, by rw [nb], ?_⟩
    rw [nb, List.map_append]
    exact own_keep hown fun q hq => by cases hq; rw [Hand.q2 _ _ _ _ _ hgmg]
  · intro q h1 h2
    have e1 : gb = q := Option.some.inj h1
    have e2 : g = q := Option.some.inj h2
    have e3 := hgbz.2
    rcases hat with e | e
    · exact h.dis (by rw [e, e2, ← e1])
    · omega
  · exact fx3.setCell _ _
end Go.Proofs.Ythlpaglldhgmfaa.PA
