/- read: digits as a number. -/
import Derived.Test.YtofndakpenpkbaaDoorStrA
import Derived.Test.YtofndakpenpkbaaDoorRatW
namespace Go.Proofs.YtofndakpenpkbaaDoor.PA
open Go.RowKit Go.Proofs.YtofndakpenpkbaaDoorW.PrintWords Go.Proofs.YtofndakpenpkbaaDoorW.PrintLast Go.Proofs.YtofndakpenpkbaaDoorW.PrintMore
set_option linter.unusedSimpArgs false
set_option linter.unusedVariables false
theorem next_at (P : Program) {w : World} {b pos : Nat} {s : ByteArray} (hb : w.heap[b]? = some (.stringIter s pos)) (h : pos < s.size) (ha : (s[pos]'h).toNat < 128) :
    ∃ W1 : World, (∀ ty, (Instr.next (.pointer (some ⟨b, 0, none⟩)) true ty).run P w = .ok (.tuple #[.bool true, .int .i64 pos, .int .i32 (s[pos]'h).toNat]) W1) ∧ W1.heap[b]? = some (.stringIter s (pos + 1)) ∧ (∀ g, g ≠ b → W1.heap[g]? = w.heap[g]?) ∧ (∀ B, B ≤ b → Below B w W1) := by
  have hlt : b < w.heap.size := (Array.getElem?_eq_some_iff.1 hb).1
  refine ⟨{ w with heap := w.heap.setIfInBounds b (.stringIter s (pos + 1)) }, fun ty => ?_, ?_, ?_, ?_⟩
  · simp only [Instr.next, getObj, setObj, Sem.run_bind, Sem.run, hb, Result.andThen, h, if_true, decode_ascii s pos h ha]
    simp [goInt, Sem.run, hb]
  · simp [hlt]
  · intro g hg
    show (w.heap.setIfInBounds b _)[g]? = _
    rw [Array.getElem?_setIfInBounds, if_neg (fun e => hg e.symm)]
  · intro B hB
    refine ⟨rfl, rfl, rfl, by simp, fun k hk => ?_⟩
    show (w.heap.setIfInBounds b _)[k]? = _
    rw [Array.getElem?_setIfInBounds, if_neg (by omega)]
theorem next_end (P : Program) {w : World} {b pos : Nat} {s : ByteArray} (hb : w.heap[b]? = some (.stringIter s pos)) (h : ¬ pos < s.size) :
    ∀ ty, (Instr.next (.pointer (some ⟨b, 0, none⟩)) true ty).run P w = .ok (.tuple #[.bool false]) w := by
  intro ty
  simp [Instr.next, getObj, Sem.run, hb, h]
def posOf : Option Obj → Nat
  | some (.stringIter _ p) => p
  | _ => 0
/-- digits as a number -/
def valN (l : List UInt8) : Nat := l.foldl (fun n c => 10 * n + (c.toNat - 48)) 0
theorem valN_snoc (l : List UInt8) (c : UInt8) : valN (l ++ [c]) = 10 * valN l + (c.toNat - 48) := by
  unfold valN; rw [List.foldl_append]; rfl
theorem take_snocB (s : ByteArray) (k : Nat) (h : k < s.size) : s.data.toList.take (k + 1) = s.data.toList.take k ++ [s[k]] := by
  rw [List.take_succ_eq_append_getElem (by simpa using h)]; rfl
set_option maxHeartbeats 4000000 in
set_option maxRecDepth 100000 in
theorem read_any (s : ByteArray) (w : World) (hs : s.size ≤ 28) (hd : ∀ (i : Nat) (h : i < s.size), 48 ≤ (s[i]'h).toNat ∧ (s[i]'h).toNat ≤ 57) :
    Calls Tryd.prog 81 #[.string s] w fun e w' => e = .returned (.agg #[.int .u64 (hiN (valN s.data.toList)), .int .u64 (loN (valN s.data.toList))]) ∧ Below w.heap.size w w' := by
  have hb : ∀ k, k ≤ s.size → valN (s.data.toList.take k) < 10 ^ k := by
    intro k
    induction k with
    | zero => intro _; simp [valN]
    | succ k ih =>
      intro hk
      rw [take_snocB s k (by omega), valN_snoc]
      have := ih (by omega)
      have := hd k (by omega)
      have e : 10 ^ (k + 1) = 10 ^ k * 10 := rfl
      omega
  have hp : ∀ k, k ≤ 28 → (10 : Nat) ^ k ≤ 10 ^ 28 := fun k h => Nat.pow_le_pow_right (by omega) h
  have hb2 : ∀ k, k ≤ s.size → valN (s.data.toList.take k) < 10000000000000000000000000000 := fun k hk => Nat.lt_of_lt_of_le (hb k hk) (hp k (by omega))
  have HB2 := Lib.hid hb2
  have HD := Lib.hid hd
  clear hb hp hb2 hd
  go_enter Tryd.func81, Tryd.ntmps81
  go_wp2
  go_loopw [5] (fun c wr => ∃ k : Nat, k ≤ s.size ∧ wr.heap[w.heap.size]? = some (.cells #[.int .u64 0, .int .u64 0] 67 (0, 0)) ∧ wr.heap[w.heap.size + 1]? = some (.cells #[.int .u64 (hiN (valN (s.data.toList.take k))), .int .u64 (loN (valN (s.data.toList.take k)))] 67 (0, 0)) ∧ wr.heap[w.heap.size + 1 + 1]? = some (.stringIter s k) ∧ Below w.heap.size w wr) (fun _ wr => s.size - posOf (wr.heap[w.heap.size + 1 + 1]?))
  case atStart =>
    refine ⟨0, Nat.zero_le _, ?_, ?_, ?_, ?_⟩
    · simp (disch := first | omega | (simp only [World.size_alloc, World.size_setCell, World.size_drew]; omega)) only [World.iter, Hand.q2, Hand.q4, Hand.q3]
    · have e : valN (List.take 0 s.data.toList) = 0 := rfl
      rw [e]
      simp (disch := first | omega | (simp only [World.size_alloc, World.size_setCell, World.size_drew]; first | done | omega)) only [World.iter, Hand.q1, Hand.q2, Hand.q4, Hand.q3]
      rfl
    · simp (disch := first | omega | (simp only [World.size_alloc, World.size_setCell, World.size_drew]; first | done | omega)) only [World.iter, Hand.q1, Hand.q2, Hand.q4, Hand.q3]
    · unfold World.iter
      repeat (first | exact Below.refl _ _ | (with_reducible first | apply Below.drew | refine Below.setCell ?_ (by dsimp only; omega) _ | refine Below.alloc ?_ (by first | omega | (simp only [Hand.sa, Hand.ss, Hand.sd, Hand.sn]; omega)) _))
  case round =>
    obtain ⟨k, hk, g_R, g_N, g_I, hB⟩ := hrel
    by_cases hlt : k < s.size
    · have hc := HD.out k hlt
      have HIK := Lib.hid g_I
      obtain ⟨W1, hn1, hI1, hO1, hB1⟩ := next_at Tryd.prog g_I hlt (by omega)
      have hv := HB2.out k hk
      have hv1 := HB2.out (k + 1) hlt
      rw [take_snocB s k hlt, valN_snoc] at hv1
      have hsn : valN (s.data.toList.take (k + 1)) = 10 * valN (s.data.toList.take k) + ((s[k]'hlt).toNat - 48) := by rw [take_snocB s k hlt, valN_snoc]
      generalize hV : valN (s.data.toList.take k) = v at g_N hv hv1 hsn
      generalize hcc : (s[k]'hlt).toNat = cc at hc hn1 hv1 hsn
      have HSN := Lib.hid hsn
      have g_I1 := hI1
      have m1 : ∀ w, Calls Tryd.prog 59 #[.agg #[.int .u64 (hiN v), .int .u64 (loN v)], .agg #[.int .u64 (hiN v), .int .u64 (loN v)]] w fun e w' => e = .returned (.agg #[.int .u64 (hiN (v + v)), .int .u64 (loN (v + v))]) ∧ Below w.heap.size w w' := fun w => plus_any v v (by omega) w
      have m2 : ∀ w, Calls Tryd.prog 59 #[.agg #[.int .u64 (hiN (v + v)), .int .u64 (loN (v + v))], .agg #[.int .u64 (hiN (v + v)), .int .u64 (loN (v + v))]] w fun e w' => e = .returned (.agg #[.int .u64 (hiN (v + v + (v + v))), .int .u64 (loN (v + v + (v + v)))]) ∧ Below w.heap.size w w' := fun w => plus_any (v + v) (v + v) (by omega) w
      obtain ⟨d, hdd⟩ : ∃ d, cc - 48 = d := ⟨_, rfl⟩
      rw [hdd] at hv1 HSN
      have e1 : wrap32 ((cc : Int) - 48) = (d : Int) := by unfold wrap32; omega
      have e2 : IntKind.u64.wrap (d : Int) = (d : Int) := by rw [U64.wrap_u64]; omega
      have e3 : IntKind.i32.wrap ((cc : Int) - 48) = (d : Int) := by rw [IntKind.wrap_i32]; omega
      have m3 : ∀ w, Calls Tryd.prog 59 #[.agg #[.int .u64 (hiN (v + v + (v + v))), .int .u64 (loN (v + v + (v + v)))], .agg #[.int .u64 (hiN (v + v + (v + v))), .int .u64 (loN (v + v + (v + v)))]] w fun e w' => e = .returned (.agg #[.int .u64 (hiN (v + v + (v + v) + (v + v + (v + v)))), .int .u64 (loN (v + v + (v + v) + (v + v + (v + v))))]) ∧ Below w.heap.size w w' := fun w => plus_any _ _ (by omega) w
      have m4 : ∀ w, Calls Tryd.prog 59 #[.agg #[.int .u64 (hiN (v + v + (v + v) + (v + v + (v + v)))), .int .u64 (loN (v + v + (v + v) + (v + v + (v + v))))], .agg #[.int .u64 (hiN (v + v)), .int .u64 (loN (v + v))]] w fun e w' => e = .returned (.agg #[.int .u64 (hiN (10 * v)), .int .u64 (loN (10 * v))]) ∧ Below w.heap.size w w' := fun w => by
        rw [show 10 * v = v + v + (v + v) + (v + v + (v + v)) + (v + v) by omega]; exact plus_any _ _ (by omega) w
      have m5 : ∀ w, Calls Tryd.prog 49 #[.int .u64 (d : Int)] w fun e w' => e = .returned (.agg #[.int .u64 (hiN d), .int .u64 (loN d)]) ∧ Below w.heap.size w w' := fun w => small_any d (by omega) w
      have m6 : ∀ w, Calls Tryd.prog 59 #[.agg #[.int .u64 (hiN (10 * v)), .int .u64 (loN (10 * v))], .agg #[.int .u64 (hiN d), .int .u64 (loN d)]] w fun e w' => e = .returned (.agg #[.int .u64 (hiN (10 * v + d)), .int .u64 (loN (10 * v + d))]) ∧ Below w.heap.size w w' := fun w => plus_any _ _ (by omega) w
      have P3 := Lib.hid m3
      have P4 := Lib.hid m4
      have P5 := Lib.hid m5
      have P6 := Lib.hid m6
      clear m3 m4 m5 m6 hdd
      have P1 := Lib.hid m1
      have P2 := Lib.hid m2
      clear m1 m2
      have g_R1 := (hO1 (w.heap.size) (by omega)).trans g_R
      have g_N1 := (hO1 (w.heap.size + 1) (by omega)).trans g_N
      have hB2 := hB.trans (hB1 w.heap.size (by omega))
      clear g_R g_N hB hI1 hO1 hB1 g_I hsn hV hcc
      have g_R := g_R1
      have g_N := g_N1
      have hB := hB2
      have g_I := g_I1
      clear g_R1 g_N1 hB2 g_I1
      obtain ⟨z_R, z1_R, z2_R, y0_R, y1_R⟩ := Hand.hz g_R
      obtain ⟨c_R_0, f_R_0, c_R_1, f_R_1⟩ := Hand.hc2 g_R
      obtain ⟨z_N, z1_N, z2_N, y0_N, y1_N⟩ := Hand.hz g_N
      obtain ⟨c_N_0, f_N_0, c_N_1, f_N_1⟩ := Hand.hc2 g_N
      obtain ⟨z_I, z1_I, z2_I, y0_I, y1_I⟩ := Hand.hz g_I
      have zw : w.heap.size ≤ W1.heap.size := hB.size
      have HG := Lib.hid (And.intro g_R (And.intro g_N (And.intro g_I (hB))))
      clear g_R g_N g_I hB
      go_wp2_with fail
      with_reducible refine (P1.out _).mono ?_
      rintro e w2 ⟨rfl, hb2⟩
      obtain ⟨g_R, g_N, g_I, hB⟩ := HG.out
      have h_R : w2.heap[w.heap.size]? = some (.cells #[.int .u64 0, .int .u64 0] 67 (0, 0)) := by
        refine Hand.kb hb2 ?_; first | with_reducible exact g_R | (simp (disch := first | omega | (simp only [Hand.sa, Hand.ss, Hand.sd, Hand.sn]; first | done | omega)) only [Hand.q2, Hand.q1, Hand.q5, Hand.q6, Hand.q4, Hand.q3, g_R] <;> rfl)
      have h_N : w2.heap[w.heap.size + 1]? = some (.cells #[.int .u64 (hiN v), .int .u64 (loN v)] 67 (0, 0)) := by
        refine Hand.kb hb2 ?_; first | with_reducible exact g_N | (simp (disch := first | omega | (simp only [Hand.sa, Hand.ss, Hand.sd, Hand.sn]; first | done | omega)) only [Hand.q2, Hand.q1, Hand.q5, Hand.q6, Hand.q4, Hand.q3, g_N] <;> rfl)
      have h_I : w2.heap[w.heap.size + 1 + 1]? = some (.stringIter s (k + 1)) := by
        refine Hand.kb hb2 ?_; first | with_reducible exact g_I | (simp (disch := first | omega | (simp only [Hand.sa, Hand.ss, Hand.sd, Hand.sn]; first | done | omega)) only [Hand.q2, Hand.q1, Hand.q5, Hand.q6, Hand.q4, Hand.q3, g_I] <;> rfl)
      have hB' : Below w.heap.size w w2 := Hand.stepB hb2 (by repeat (with_reducible first | apply hB | apply Below.drew | apply pw_below_drewN | (apply Below.setCell; rotate_left; (dsimp only; omega)) | (apply Below.alloc; rotate_left; (first | omega | (simp only [Hand.sa, Hand.ss, Hand.sd, Hand.sn]; omega))))) (Nat.le_refl _)
      clear HG hB g_R g_N g_I zw z_R z1_R z2_R y0_R y1_R c_R_0 f_R_0 c_R_1 f_R_1 z_N z1_N z2_N y0_N y1_N c_N_0 f_N_0 c_N_1 f_N_1 z_I z1_I z2_I y0_I y1_I
      clear hb2
      have g_R := h_R
      have g_N := h_N
      have g_I := h_I
      have hB := hB'
      clear hB' h_R h_N h_I
      obtain ⟨z_R, z1_R, z2_R, y0_R, y1_R⟩ := Hand.hz g_R
      obtain ⟨c_R_0, f_R_0, c_R_1, f_R_1⟩ := Hand.hc2 g_R
      obtain ⟨z_N, z1_N, z2_N, y0_N, y1_N⟩ := Hand.hz g_N
      obtain ⟨c_N_0, f_N_0, c_N_1, f_N_1⟩ := Hand.hc2 g_N
      obtain ⟨z_I, z1_I, z2_I, y0_I, y1_I⟩ := Hand.hz g_I
      have zw : w.heap.size ≤ w2.heap.size := hB.size
      have HG := Lib.hid (And.intro g_R (And.intro g_N (And.intro g_I (hB))))
      clear g_R g_N g_I hB
      have k2 : w.heap.size + 1 + 1 < w2.heap.size := z_I
      go_wp2_with fail
      with_reducible refine (P2.out _).mono ?_
      rintro e w3 ⟨rfl, hb3⟩
      obtain ⟨g_R, g_N, g_I, hB⟩ := HG.out
      have h_R : w3.heap[w.heap.size]? = some (.cells #[.int .u64 0, .int .u64 0] 67 (0, 0)) := by
        refine Hand.kb hb3 ?_; first | with_reducible exact g_R | (simp (disch := first | omega | (simp only [Hand.sa, Hand.ss, Hand.sd, Hand.sn]; first | done | omega)) only [Hand.q2, Hand.q1, Hand.q5, Hand.q6, Hand.q4, Hand.q3, g_R] <;> rfl)
      have h_N : w3.heap[w.heap.size + 1]? = some (.cells #[.int .u64 (hiN v), .int .u64 (loN v)] 67 (0, 0)) := by
        refine Hand.kb hb3 ?_; first | with_reducible exact g_N | (simp (disch := first | omega | (simp only [Hand.sa, Hand.ss, Hand.sd, Hand.sn]; first | done | omega)) only [Hand.q2, Hand.q1, Hand.q5, Hand.q6, Hand.q4, Hand.q3, g_N] <;> rfl)
      have h_I : w3.heap[w.heap.size + 1 + 1]? = some (.stringIter s (k + 1)) := by
        refine Hand.kb hb3 ?_; first | with_reducible exact g_I | (simp (disch := first | omega | (simp only [Hand.sa, Hand.ss, Hand.sd, Hand.sn]; first | done | omega)) only [Hand.q2, Hand.q1, Hand.q5, Hand.q6, Hand.q4, Hand.q3, g_I] <;> rfl)
      have h_T : w3.heap[w2.heap.size]? = some (.cells #[.int .u64 (hiN (v + v)), .int .u64 (loN (v + v))] 67 (0, 0)) := by
        refine Hand.kb hb3 ?_; simp (disch := first | omega | (simp only [Hand.sa, Hand.ss, Hand.sd, Hand.sn]; first | done | omega)) only [Hand.q2, Hand.q1, Hand.q5, Hand.q6, Hand.q4, Hand.q3] <;> rfl
      have hB' : Below w.heap.size w w3 := Hand.stepB hb3 (by repeat (with_reducible first | apply hB | apply Below.drew | apply pw_below_drewN | (apply Below.setCell; rotate_left; (dsimp only; omega)) | (apply Below.alloc; rotate_left; (first | omega | (simp only [Hand.sa, Hand.ss, Hand.sd, Hand.sn]; omega))))) (Nat.le_refl _)
      clear HG hB g_R g_N g_I zw z_R z1_R z2_R y0_R y1_R c_R_0 f_R_0 c_R_1 f_R_1 z_N z1_N z2_N y0_N y1_N c_N_0 f_N_0 c_N_1 f_N_1 z_I z1_I z2_I y0_I y1_I
      clear hb3
      have g_R := h_R
      have g_N := h_N
      have g_I := h_I
      have g_T := h_T
      have hB := hB'
      clear hB' h_R h_N h_I h_T
      obtain ⟨z_R, z1_R, z2_R, y0_R, y1_R⟩ := Hand.hz g_R
      obtain ⟨c_R_0, f_R_0, c_R_1, f_R_1⟩ := Hand.hc2 g_R
      obtain ⟨z_N, z1_N, z2_N, y0_N, y1_N⟩ := Hand.hz g_N
      obtain ⟨c_N_0, f_N_0, c_N_1, f_N_1⟩ := Hand.hc2 g_N
      obtain ⟨z_I, z1_I, z2_I, y0_I, y1_I⟩ := Hand.hz g_I
      obtain ⟨z_T, z1_T, z2_T, y0_T, y1_T⟩ := Hand.hz g_T
      obtain ⟨c_T_0, f_T_0, c_T_1, f_T_1⟩ := Hand.hc2 g_T
      have zw : w.heap.size ≤ w3.heap.size := hB.size
      have HG := Lib.hid (And.intro g_R (And.intro g_N (And.intro g_I (And.intro g_T (hB)))))
      clear g_R g_N g_I g_T hB
      have k3 : w.heap.size + 1 + 1 < w3.heap.size := z_I
      go_wp2_with fail
      obtain ⟨g_R, g_N, g_I, g_T, hB⟩ := HG.out
      obtain ⟨W, hW⟩ : ∃ W_, W_ = w3.alloc (.cells #[.int .u64 (hiN (v + v + (v + v))), .int .u64 (loN (v + v + (v + v)))] 67) := ⟨_, rfl⟩
      rw [← hW]
      have h_R : W.heap[w.heap.size]? = some (.cells #[.int .u64 0, .int .u64 0] 67 (0, 0)) := by
        rw [hW]
        first | (simp (disch := first | with_reducible assumption | (with_reducible first | exact Nat.ne_of_lt (by assumption) | exact Nat.ne_of_gt (by assumption) | exact Ne.symm (by assumption)) | ((fail_if_success (refine Hand.trip (by with_reducible rfl) ?_)); first | omega | (simp only [Hand.sa, Hand.ss, Hand.sd, Hand.sn]; first | done | with_reducible assumption | omega))) only [Hand.q2, Hand.q1, Hand.q5, Hand.q6, Hand.q4, Hand.q3, g_R]; done) | (simp (disch := first | with_reducible assumption | (with_reducible first | exact Nat.ne_of_lt (by assumption) | exact Nat.ne_of_gt (by assumption) | exact Ne.symm (by assumption)) | ((fail_if_success (refine Hand.trip (by with_reducible rfl) ?_)); first | omega | (simp only [Hand.sa, Hand.ss, Hand.sd, Hand.sn]; first | done | with_reducible assumption | omega))) only [Hand.q2, Hand.q1, Hand.q5, Hand.q6, Hand.q4, Hand.q3, g_R]; rfl)
      have h_N : W.heap[w.heap.size + 1]? = some (.cells #[.int .u64 (hiN v), .int .u64 (loN v)] 67 (0, 0)) := by
        rw [hW]
        first | (simp (disch := first | with_reducible assumption | (with_reducible first | exact Nat.ne_of_lt (by assumption) | exact Nat.ne_of_gt (by assumption) | exact Ne.symm (by assumption)) | ((fail_if_success (refine Hand.trip (by with_reducible rfl) ?_)); first | omega | (simp only [Hand.sa, Hand.ss, Hand.sd, Hand.sn]; first | done | with_reducible assumption | omega))) only [Hand.q2, Hand.q1, Hand.q5, Hand.q6, Hand.q4, Hand.q3, g_N]; done) | (simp (disch := first | with_reducible assumption | (with_reducible first | exact Nat.ne_of_lt (by assumption) | exact Nat.ne_of_gt (by assumption) | exact Ne.symm (by assumption)) | ((fail_if_success (refine Hand.trip (by with_reducible rfl) ?_)); first | omega | (simp only [Hand.sa, Hand.ss, Hand.sd, Hand.sn]; first | done | with_reducible assumption | omega))) only [Hand.q2, Hand.q1, Hand.q5, Hand.q6, Hand.q4, Hand.q3, g_N]; rfl)
      have h_I : W.heap[w.heap.size + 1 + 1]? = some (.stringIter s (k + 1)) := by
        rw [hW]
        first | (simp (disch := first | with_reducible assumption | (with_reducible first | exact Nat.ne_of_lt (by assumption) | exact Nat.ne_of_gt (by assumption) | exact Ne.symm (by assumption)) | ((fail_if_success (refine Hand.trip (by with_reducible rfl) ?_)); first | omega | (simp only [Hand.sa, Hand.ss, Hand.sd, Hand.sn]; first | done | with_reducible assumption | omega))) only [Hand.q2, Hand.q1, Hand.q5, Hand.q6, Hand.q4, Hand.q3, g_I]; done) | (simp (disch := first | with_reducible assumption | (with_reducible first | exact Nat.ne_of_lt (by assumption) | exact Nat.ne_of_gt (by assumption) | exact Ne.symm (by assumption)) | ((fail_if_success (refine Hand.trip (by with_reducible rfl) ?_)); first | omega | (simp only [Hand.sa, Hand.ss, Hand.sd, Hand.sn]; first | done | with_reducible assumption | omega))) only [Hand.q2, Hand.q1, Hand.q5, Hand.q6, Hand.q4, Hand.q3, g_I]; rfl)
      have h_T : W.heap[w2.heap.size]? = some (.cells #[.int .u64 (hiN (v + v)), .int .u64 (loN (v + v))] 67 (0, 0)) := by
        rw [hW]
        first | (simp (disch := first | with_reducible assumption | (with_reducible first | exact Nat.ne_of_lt (by assumption) | exact Nat.ne_of_gt (by assumption) | exact Ne.symm (by assumption)) | ((fail_if_success (refine Hand.trip (by with_reducible rfl) ?_)); first | omega | (simp only [Hand.sa, Hand.ss, Hand.sd, Hand.sn]; first | done | with_reducible assumption | omega))) only [Hand.q2, Hand.q1, Hand.q5, Hand.q6, Hand.q4, Hand.q3, g_T]; done) | (simp (disch := first | with_reducible assumption | (with_reducible first | exact Nat.ne_of_lt (by assumption) | exact Nat.ne_of_gt (by assumption) | exact Ne.symm (by assumption)) | ((fail_if_success (refine Hand.trip (by with_reducible rfl) ?_)); first | omega | (simp only [Hand.sa, Hand.ss, Hand.sd, Hand.sn]; first | done | with_reducible assumption | omega))) only [Hand.q2, Hand.q1, Hand.q5, Hand.q6, Hand.q4, Hand.q3, g_T]; rfl)
      have h_F : W.heap[w3.heap.size]? = some (.cells #[.int .u64 (hiN (v + v + (v + v))), .int .u64 (loN (v + v + (v + v)))] 67 (0, 0)) := by
        rw [hW]
        first | (simp (disch := first | with_reducible assumption | (with_reducible first | exact Nat.ne_of_lt (by assumption) | exact Nat.ne_of_gt (by assumption) | exact Ne.symm (by assumption)) | ((fail_if_success (refine Hand.trip (by with_reducible rfl) ?_)); first | omega | (simp only [Hand.sa, Hand.ss, Hand.sd, Hand.sn]; first | done | with_reducible assumption | omega))) only [Hand.q2, Hand.q1, Hand.q5, Hand.q6, Hand.q4, Hand.q3]; done) | (simp (disch := first | with_reducible assumption | (with_reducible first | exact Nat.ne_of_lt (by assumption) | exact Nat.ne_of_gt (by assumption) | exact Ne.symm (by assumption)) | ((fail_if_success (refine Hand.trip (by with_reducible rfl) ?_)); first | omega | (simp only [Hand.sa, Hand.ss, Hand.sd, Hand.sn]; first | done | with_reducible assumption | omega))) only [Hand.q2, Hand.q1, Hand.q5, Hand.q6, Hand.q4, Hand.q3]; rfl)
      have hB' : Below w.heap.size w W := by
        rw [hW]
        repeat (first | exact hB | (with_reducible first | apply Below.drew | apply pw_below_drewN | refine Below.setCell ?_ (by dsimp only; omega) _ | refine Below.alloc ?_ (by first | omega | (simp only [Hand.sa, Hand.ss, Hand.sd, Hand.sn]; omega)) _))
      clear HG hB g_R g_N g_I g_T zw z_R z1_R z2_R y0_R y1_R c_R_0 f_R_0 c_R_1 f_R_1 z_N z1_N z2_N y0_N y1_N c_N_0 f_N_0 c_N_1 f_N_1 z_I z1_I z2_I y0_I y1_I z_T z1_T z2_T y0_T y1_T c_T_0 f_T_0 c_T_1 f_T_1
      clear hW
      have g_R := h_R
      have g_N := h_N
      have g_I := h_I
      have g_T := h_T
      have g_F := h_F
      have hB := hB'
      clear hB' h_R h_N h_I h_T h_F
      obtain ⟨z_R, z1_R, z2_R, y0_R, y1_R⟩ := Hand.hz g_R
      obtain ⟨c_R_0, f_R_0, c_R_1, f_R_1⟩ := Hand.hc2 g_R
      obtain ⟨z_N, z1_N, z2_N, y0_N, y1_N⟩ := Hand.hz g_N
      obtain ⟨c_N_0, f_N_0, c_N_1, f_N_1⟩ := Hand.hc2 g_N
      obtain ⟨z_I, z1_I, z2_I, y0_I, y1_I⟩ := Hand.hz g_I
      obtain ⟨z_T, z1_T, z2_T, y0_T, y1_T⟩ := Hand.hz g_T
      obtain ⟨c_T_0, f_T_0, c_T_1, f_T_1⟩ := Hand.hc2 g_T
      obtain ⟨z_F, z1_F, z2_F, y0_F, y1_F⟩ := Hand.hz g_F
      obtain ⟨c_F_0, f_F_0, c_F_1, f_F_1⟩ := Hand.hc2 g_F
      have zw : w.heap.size ≤ W.heap.size := hB.size
      have HG := Lib.hid (And.intro g_R (And.intro g_N (And.intro g_I (And.intro g_T (And.intro g_F (hB))))))
      clear g_R g_N g_I g_T g_F hB
      have HBW := Lib.hid (HG.out.2.2.2.2.2)
      have HK := Lib.hid (And.intro c_T_0 (And.intro c_T_1 (And.intro c_F_0 (c_F_1))))
      have HR_N := Lib.hid (And.intro c_N_0 (And.intro f_N_0 (And.intro c_N_1 (f_N_1))))
      have BD : Below W.heap.size W W.drew := Below.drew (Below.refl _ _)
      have BR : Below W.heap.size W W := Below.refl _ _
      go_region_held3 (fun w_ => Below w.heap.size w w_ ∧ w_.cell? ⟨w2.heap.size, 0, none⟩ = some (.int .u64 (hiN (v + v))) ∧ w_.cell? ⟨w2.heap.size, 1, none⟩ = some (.int .u64 (loN (v + v))) ∧ w_.cell? ⟨w3.heap.size, 0, none⟩ = some (.int .u64 (hiN (v + v + (v + v)))) ∧ w_.cell? ⟨w3.heap.size, 1, none⟩ = some (.int .u64 (loN (v + v + (v + v))))) (first | with_reducible exact ⟨Below.setCell (Below.setCell (HBW.out.trans (Below.mono BB zw)) (by dsimp only; omega) _) (by dsimp only; omega) _, Hand.cell_far (by omega) (Hand.cell_far (by omega) ((Below.cell BB (p := ⟨w2.heap.size, 0, none⟩) z_T).trans (HK.out.1))), Hand.cell_far (by omega) (Hand.cell_far (by omega) ((Below.cell BB (p := ⟨w2.heap.size, 1, none⟩) z_T).trans (HK.out.2.1))), Hand.cell_far (by omega) (Hand.cell_far (by omega) ((Below.cell BB (p := ⟨w3.heap.size, 0, none⟩) z_F).trans (HK.out.2.2.1))), Hand.cell_far (by omega) (Hand.cell_far (by omega) ((Below.cell BB (p := ⟨w3.heap.size, 1, none⟩) z_F).trans (HK.out.2.2.2)))⟩ | with_reducible (refine ⟨?_, (Below.cell BR (p := ⟨w2.heap.size, 0, none⟩) z_T).trans (HK.out.1), (Below.cell BR (p := ⟨w2.heap.size, 1, none⟩) z_T).trans (HK.out.2.1), (Below.cell BR (p := ⟨w3.heap.size, 0, none⟩) z_F).trans (HK.out.2.2.1), (Below.cell BR (p := ⟨w3.heap.size, 1, none⟩) z_F).trans (HK.out.2.2.2)⟩; apply (HBW.out.trans (Below.mono BR zw))) | with_reducible (refine ⟨?_, (Below.cell BD (p := ⟨w2.heap.size, 0, none⟩) z_T).trans (HK.out.1), (Below.cell BD (p := ⟨w2.heap.size, 1, none⟩) z_T).trans (HK.out.2.1), (Below.cell BD (p := ⟨w3.heap.size, 0, none⟩) z_F).trans (HK.out.2.2.1), (Below.cell BD (p := ⟨w3.heap.size, 1, none⟩) z_F).trans (HK.out.2.2.2)⟩; apply (HBW.out.trans (Below.mono BD zw))) | with_reducible (refine ⟨?_, (Below.cell BB (p := ⟨w2.heap.size, 0, none⟩) z_T).trans (HK.out.1), (Below.cell BB (p := ⟨w2.heap.size, 1, none⟩) z_T).trans (HK.out.2.1), (Below.cell BB (p := ⟨w3.heap.size, 0, none⟩) z_F).trans (HK.out.2.2.1), (Below.cell BB (p := ⟨w3.heap.size, 1, none⟩) z_F).trans (HK.out.2.2.2)⟩; apply (HBW.out.trans (Below.mono BB zw)))) (first | (go_at_call 59; ((with_reducible refine (P3.out _).mono ?_); rintro e w4 ⟨rfl, hb_⟩; have BB : Below W.heap.size W w4 := Hand.stepB hb_ (by assumption) (Nat.le_refl _); have zB_w4 := Below.size BB; clear hb_)) | (go_at_call 59; ((with_reducible refine (P4.out _).mono ?_); rintro e w5 ⟨rfl, hb_⟩; have BB : Below W.heap.size W w5 := Hand.stepB hb_ (by assumption) (Nat.le_refl _); have zB_w5 := Below.size BB; clear hb_)) | (go_at_call 49; ((with_reducible refine (P5.out _).mono ?_); rintro e w6 ⟨rfl, hb_⟩; have BB : Below W.heap.size W w6 := Hand.stepB hb_ (by assumption) (Nat.le_refl _); have zB_w6 := Below.size BB; clear hb_)) | (go_at_call 59; ((with_reducible refine (P6.out _).mono ?_); rintro e w7 ⟨rfl, hb_⟩; have BB : Below W.heap.size W w7 := Hand.stepB hb_ (by assumption) (Nat.le_refl _); have zB_w7 := Below.size BB; clear hb_; (try clear rN_0 sN_0 rN_1 sN_1); have rN_0 := (Below.cell BB (p := ⟨w.heap.size + 1, 0, none⟩) z_N).trans (HR_N.out.1); have sN_0 := (Below.frozen BB (p := ⟨w.heap.size + 1, 0, none⟩) z_N).trans (HR_N.out.2.1); have rN_1 := (Below.cell BB (p := ⟨w.heap.size + 1, 1, none⟩) z_N).trans (HR_N.out.2.2.1); have sN_1 := (Below.frozen BB (p := ⟨w.heap.size + 1, 1, none⟩) z_N).trans (HR_N.out.2.2.2))))
      go_roundw
      case rel =>
        obtain ⟨g_R, g_N, g_I, g_T, g_F, hB⟩ := HG.out
        refine ⟨_, _, _, _, _, _, _, _, _, _, _, _, _, _, _, _, _, _, _, _, _, _, ⟨k + 1, by omega, ?_, ?_, ?_, ?_⟩, rfl⟩
        · have e := (Hand.hp_below BB z_R).trans g_R
          simp (disch := omega) only [Hand.q2, Hand.q5, e]
        · have e := (Hand.hp_below BB z_N).trans g_N
          rw [HSN.out]
          simp (disch := omega) only [Hand.q1, Hand.q5, e]; rfl
        · have e := (Hand.hp_below BB z_I).trans g_I
          simp (disch := omega) only [Hand.q2, Hand.q5, e]
        · exact ((hB.trans (Below.mono BB zw)).setCell (by dsimp only; omega) _).setCell (by dsimp only; omega) _
      case measure =>
        obtain ⟨g_R, g_N, g_I, g_T, g_F, hB⟩ := HG.out
        have e := (Hand.hp_below BB z_I).trans g_I
        simp (disch := omega) only [Hand.q2, Hand.q5, e, HIK.out, posOf]
        omega
    · obtain rfl : k = s.size := by omega
      have hn1 := next_end Tryd.prog g_I hlt
      have hV : valN (List.take s.size s.data.toList) = valN s.data.toList := by rw [List.take_of_length_le (by simp)]
      rw [hV] at g_N
      clear hV
      obtain ⟨v, hv⟩ : ∃ v, valN s.data.toList = v := ⟨_, rfl⟩
      rw [hv] at g_N
      have HV := Lib.hid hv
      clear hv
      obtain ⟨z_R, z1_R, z2_R, y0_R, y1_R⟩ := Hand.hz g_R
      obtain ⟨c_R_0, f_R_0, c_R_1, f_R_1⟩ := Hand.hc2 g_R
      obtain ⟨z_N, z1_N, z2_N, y0_N, y1_N⟩ := Hand.hz g_N
      obtain ⟨c_N_0, f_N_0, c_N_1, f_N_1⟩ := Hand.hc2 g_N
      have zw : w.heap.size ≤ wr.heap.size := hB.size
      have HG := Lib.hid (And.intro g_R (And.intro g_N (hB)))
      clear g_R g_N hB
      go_wp2
      obtain ⟨g_R, g_N, hB⟩ := HG.out
      refine bodyPost_ret (results_cell_row rfl _ _ (w.heap.size) 67 #[.int .u64 (hiN v), .int .u64 (loN v)] (0, 0) _ rfl ?_ Tryd.underlying67 rfl (by kernel_rfl)) rfl ⟨by rw [HV.out], ?_⟩
      · simp (disch := omega) only [Hand.q1, g_R]; rfl
      · exact (hB.setCell (by dsimp only; omega) _).setCell (by dsimp only; omega) _
end Go.Proofs.YtofndakpenpkbaaDoor.PA
