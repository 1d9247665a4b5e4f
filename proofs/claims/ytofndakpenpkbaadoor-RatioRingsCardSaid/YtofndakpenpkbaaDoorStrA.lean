/- strings.Cut at a separator of one byte; digits and number, at what they are asked. -/
import Derived.Test.YtofndakpenpkbaaDoorShelf
import Derived.Shelf.Strings.SlTrimAscii
import Derived.Test.YtofndakpenpkbaaDoorHand
import Derived.Deep.RegionHeld3
import Derived.Deep.RegionWith
import Derived.Deep.QuietTactic
import Derived.BigQuiet
import Derived.Lib.IndexBytes
import Derived.Lib.CutLaws
import Derived.ChangeAlike
namespace Go.Proofs.YtofndakpenpkbaaDoor.PA
open Go.RowKit Go.Proofs.YtofndakpenpkbaaDoorW.PrintWords Go.Proofs.YtofndakpenpkbaaDoorW.PrintLast Go.Proofs.YtofndakpenpkbaaDoorW.PrintMore
set_option linter.unusedSimpArgs false
set_option linter.unusedVariables false
set_option maxHeartbeats 800000 in
set_option maxRecDepth 100000 in
theorem slcut_one (s : ByteArray) (c : UInt8) (w : World) (hs : s.size < 4294967281) :
    Calls Tryd.prog 94 #[.string s, .string ⟨#[c]⟩] w fun e w' => e = .returned (.tuple #[.string ⟨(Lib.cut s.data.toList (⟨#[c]⟩ : ByteArray).data.toList).1.toArray⟩, .string ⟨(Lib.cut s.data.toList (⟨#[c]⟩ : ByteArray).data.toList).2.1.toArray⟩, .bool (Lib.cut s.data.toList (⟨#[c]⟩ : ByteArray).data.toList).2.2]) ∧ ∃ n, w' = w.drewN n := by
  have H1 : ∀ w, Calls Tryd.prog 105 #[.string s, .string ⟨#[c]⟩] w fun e w' => e = .returned (.int .i64 (Lib.indexB s ⟨#[c]⟩)) ∧ w' = w := fun w => by
    have := Tryd.stringslite_Index_one s c w
    rw [← Lib.index_one] at this; exact this
  rcases Lib.indexB_cases s ⟨#[c]⟩ with hix | ⟨i, hix, hroom⟩
  · obtain ⟨e1, e2, e3⟩ := Lib.cutB_miss s ⟨#[c]⟩ hix
    rw [e1, e2, e3]
    rw [hix] at H1
    have H1 := Lib.hid H1
    clear hix e1 e2 e3
    go_enter Tryd.func94, Tryd.ntmps94
    go_wp2_with fail
    with_reducible refine (H1.out _).mono ?_
    rintro e w1 ⟨rfl, rfl⟩
    go_wp2
    go_ret3
    exact ⟨rfl, 0, rfl⟩
  · obtain ⟨e1, e2, e3⟩ := Lib.cutB_hit s ⟨#[c]⟩ i hix
    rw [e1, e2, e3]
    rw [hix] at H1
    have H1 := Lib.hid H1
    clear hix e1 e2 e3
    have hsz : (⟨#[c]⟩ : ByteArray).size = 1 := rfl
    rw [hsz] at hroom ⊢
    clear hsz
    have c1 : (0 : Int) ≤ ↑i := by omega
    have c2 : (↑i : Int) ≤ ↑s.size := by omega
    have c3 : (0 : Int) ≤ ↑i + 1 := by omega
    have c4 : (↑i + 1 : Int) ≤ ↑s.size := by omega
    go_enter Tryd.func94, Tryd.ntmps94
    go_wp2_with fail
    with_reducible refine (H1.out _).mono ?_
    rintro e w1 ⟨rfl, rfl⟩
    go_wp2
    go_region
    go_wp2
    go_ret3
    exact ⟨rfl, 1, rfl⟩
set_option maxHeartbeats 800000 in
set_option maxRecDepth 100000 in
theorem cut_one (s : ByteArray) (c : UInt8) (w : World) (hs : s.size < 4294967281) :
    Calls Tryd.prog 77 #[.string s, .string ⟨#[c]⟩] w fun e w' => e = .returned (.tuple #[.string ⟨(Lib.cut s.data.toList [c]).1.toArray⟩, .string ⟨(Lib.cut s.data.toList [c]).2.1.toArray⟩, .bool (Lib.cut s.data.toList [c]).2.2]) ∧ Below w.heap.size w w' := by
  have H1 := fun w => slcut_one s c w hs
  simp only [show (⟨#[c]⟩ : ByteArray).data.toList = [c] from rfl] at H1
  generalize Lib.cut s.data.toList [c] = r at H1 ⊢
  have H1 := Lib.hid H1
  go_enter Tryd.func77, Tryd.ntmps77
  go_wp2_with fail
  with_reducible refine (H1.out _).mono ?_
  rintro e w1 ⟨rfl, n, rfl⟩
  go_wp2
  go_ret3
  exact ⟨rfl, by apply pw_below_drewN; exact Below.refl _ _⟩
def digs : ByteArray := ⟨#[48, 49, 50, 51, 52, 53, 54, 55, 56, 57]⟩
theorem trim_digits (s : ByteArray) (w : World) (hs : s.size ≤ 9223372036854775807) :
    Calls Tryd.prog 78 #[.string s, .string ⟨#[48, 49, 50, 51, 52, 53, 54, 55, 56, 57]⟩] w fun e w' => e = .returned (.string ⟨(Lib.trimS s.data.toList [48, 49, 50, 51, 52, 53, 54, 55, 56, 57]).toArray⟩) ∧ Below w.heap.size w w' :=
  Any.strings_Trim_laid Tryd.trim160 (by kernel_rfl) s ⟨#[48, 49, 50, 51, 52, 53, 54, 55, 56, 57]⟩ w hs (by decide) (ascii_of_all (by decide))
set_option maxHeartbeats 800000 in
set_option maxRecDepth 100000 in
theorem digits_yes (s : ByteArray) (w : World) (hs : s.size ≤ 9223372036854775807) (h0 : s.toList.isEmpty = false) (h : Lib.trimS s.data.toList [48, 49, 50, 51, 52, 53, 54, 55, 56, 57] = []) :
    Calls Tryd.prog 80 #[.string s] w fun e w' => e = .returned (.bool true) ∧ Below w.heap.size w w' := by
  have h1 : ¬ s.toList = [] := by intro e; rw [e] at h0; exact absurd h0 (by decide)
  have H1 := fun w => trim_digits s w hs
  rw [h] at H1
  have H1 := Lib.hid H1
  clear h
  go_enter Tryd.func80, Tryd.ntmps80
  go_wp2_with fail
  with_reducible refine (H1.out _).mono ?_
  rintro e w1 ⟨rfl, hb1⟩
  go_wp2
  go_ret
  exact ⟨rfl, hb1⟩
end Go.Proofs.YtofndakpenpkbaaDoor.PA
