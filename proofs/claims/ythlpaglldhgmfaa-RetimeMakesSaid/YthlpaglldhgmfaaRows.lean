/-
  No cell of these rows narrows 'for every input' (looked for: loops, veiled, ifaces, maps, wideKeys, modest, calm, conditions, laid).
  DERIVED. THE GIVEN ROWS OF THIS SEAT. 9 by the template 'for every input the law returns true; each argument reads behind the call as it read before'; 0 by the template 'total and deterministic' (their statements: YthlpaglldhgmfaaTotals.lean).
  GIVEN WITH THE SEED: the statements are not yours to turn. If you find one false, say at which input.
  Laid BY PROGRAM, IN A SANDBOX (cutbox-rows.mjs): the forced cells as the released guide's own fill.sh prints them over the translation 2db035ca8031de2d… (all of the seat's roots in one cut). By AI agents, Wed Nov 11 2026. No macro, syntax, notation, axiom, sorry.
-/
import Derived.Test.YthlpaglldhgmfaaChecked
import GoSem.Claim
import GoSem.ClaimJoined
import GoSem.ClaimMapViews
import Derived.JoinedTies
import Derived.KernelRfl
namespace Go.Proofs.Ythlpaglldhgmfaa
/- THE CELL 'sum', in the pinned program and in every row, IS THE sha256 OF THE DUMP (.gsa) THAT YthlpaglldhgmfaaProg.lean LOADS. Nothing in Lean hashes anything: it is a label: what it is worth is what the hold of that sum in a sandbox is worth. -/
noncomputable def Try.pinned : Pinned := { name := "ythlpaglldhgmfaa", sum := "2db035ca8031de2d13c21ff83a35e6407a50805973c9247364037f616a906006", checked := Try.checked }
namespace Rows
def none {H : Type} : Left H := { results := [], args := [] }

/-- 'surtitlelaw6.RetimeRises': WHATEVER THE INPUT: true; the input reads as it did. -/
def retimeRisesSpec : ChangeSpec := { name := "retimeRises", fn := fun _ => fun
  | [d1, d2] => { results := [.lit (.bool true)], args := [d1, d2] }
  | _ => none }
def retimeRisesRow : OpenClaim := { program := "ythlpaglldhgmfaa", sum := "2db035ca8031de2d13c21ff83a35e6407a50805973c9247364037f616a906006", func := "surtitle/surtitlelaw6.RetimeRises", spec := "retimeRises", inPlace := ["math/bits.Sub64", "math/bits.Add64"], unfollowed := true, recurses := true, named := ["math/bits.divideError", "math/bits.overflowError"], apart := false }
def RetimeRisesSaid : Prop := retimeRisesRow.holds Try.pinned (OpenSpec.ofChange retimeRisesSpec)

/-- ITS FALSE NEIGHBOUR: 'it returns false'. Refute it at one input. -/
def retimeRisesWrong : ChangeSpec := { name := "retimeRises", fn := fun _ => fun
  | [d1, d2] => { results := [.lit (.bool false)], args := [d1, d2] }
  | _ => none }
def RetimeRisesWrongFalsely : Prop := retimeRisesRow.holds Try.pinned (OpenSpec.ofChange retimeRisesWrong)

/-- 'surtitlelaw6.RetimeOnly': WHATEVER THE INPUT: true; the input reads as it did. -/
def retimeOnlySpec : ChangeSpec := { name := "retimeOnly", fn := fun _ => fun
  | [d1, d2] => { results := [.lit (.bool true)], args := [d1, d2] }
  | _ => none }
def retimeOnlyRow : OpenClaim := { program := "ythlpaglldhgmfaa", sum := "2db035ca8031de2d13c21ff83a35e6407a50805973c9247364037f616a906006", func := "surtitle/surtitlelaw6.RetimeOnly", spec := "retimeOnly", inPlace := ["math/bits.Sub64", "math/bits.Add64"], unfollowed := true, recurses := true, named := ["math/bits.divideError", "math/bits.overflowError"], apart := false }
def RetimeOnlySaid : Prop := retimeOnlyRow.holds Try.pinned (OpenSpec.ofChange retimeOnlySpec)

/-- ITS FALSE NEIGHBOUR: 'it returns false'. Refute it at one input. -/
def retimeOnlyWrong : ChangeSpec := { name := "retimeOnly", fn := fun _ => fun
  | [d1, d2] => { results := [.lit (.bool false)], args := [d1, d2] }
  | _ => none }
def RetimeOnlyWrongFalsely : Prop := retimeOnlyRow.holds Try.pinned (OpenSpec.ofChange retimeOnlyWrong)

/-- 'surtitlelaw6.RetimeMaps': WHATEVER THE INPUT: true; the input reads as it did. -/
def retimeMapsSpec : ChangeSpec := { name := "retimeMaps", fn := fun _ => fun
  | [d1, d2] => { results := [.lit (.bool true)], args := [d1, d2] }
  | _ => none }
def retimeMapsRow : OpenClaim := { program := "ythlpaglldhgmfaa", sum := "2db035ca8031de2d13c21ff83a35e6407a50805973c9247364037f616a906006", func := "surtitle/surtitlelaw6.RetimeMaps", spec := "retimeMaps", inPlace := ["math/bits.Sub64", "math/bits.Add64"], unfollowed := true, recurses := true, named := ["math/bits.divideError", "math/bits.overflowError"], apart := false }
def RetimeMapsSaid : Prop := retimeMapsRow.holds Try.pinned (OpenSpec.ofChange retimeMapsSpec)

/-- ITS FALSE NEIGHBOUR: 'it returns false'. Refute it at one input. -/
def retimeMapsWrong : ChangeSpec := { name := "retimeMaps", fn := fun _ => fun
  | [d1, d2] => { results := [.lit (.bool false)], args := [d1, d2] }
  | _ => none }
def RetimeMapsWrongFalsely : Prop := retimeMapsRow.holds Try.pinned (OpenSpec.ofChange retimeMapsWrong)

/-- 'surtitlelaw6.RetimeOwn': WHATEVER THE INPUT: true; the input reads as it did. -/
def retimeOwnSpec : ChangeSpec := { name := "retimeOwn", fn := fun _ => fun
  | [d1, d2] => { results := [.lit (.bool true)], args := [d1, d2] }
  | _ => none }
def retimeOwnRow : OpenClaim := { program := "ythlpaglldhgmfaa", sum := "2db035ca8031de2d13c21ff83a35e6407a50805973c9247364037f616a906006", func := "surtitle/surtitlelaw6.RetimeOwn", spec := "retimeOwn", inPlace := ["math/bits.Sub64", "math/bits.Add64"], unfollowed := true, recurses := true, named := ["math/bits.divideError", "math/bits.overflowError"], apart := false }
def RetimeOwnSaid : Prop := retimeOwnRow.holds Try.pinned (OpenSpec.ofChange retimeOwnSpec)

/-- ITS FALSE NEIGHBOUR: 'it returns false'. Refute it at one input. -/
def retimeOwnWrong : ChangeSpec := { name := "retimeOwn", fn := fun _ => fun
  | [d1, d2] => { results := [.lit (.bool false)], args := [d1, d2] }
  | _ => none }
def RetimeOwnWrongFalsely : Prop := retimeOwnRow.holds Try.pinned (OpenSpec.ofChange retimeOwnWrong)

/-- 'surtitlelaw6.RetimeMakes': WHATEVER THE INPUT: true; the input reads as it did. -/
def retimeMakesSpec : ChangeSpec := { name := "retimeMakes", fn := fun _ => fun
  | [d1, d2, d3, d4, d5] => { results := [.lit (.bool true)], args := [d1, d2, d3, d4, d5] }
  | _ => none }
def retimeMakesRow : OpenClaim := { program := "ythlpaglldhgmfaa", sum := "2db035ca8031de2d13c21ff83a35e6407a50805973c9247364037f616a906006", func := "surtitle/surtitlelaw6.RetimeMakes", spec := "retimeMakes", inPlace := ["math/bits.Sub64", "math/bits.Add64"], unfollowed := true, recurses := true, named := ["math/bits.divideError", "math/bits.overflowError"], apart := false }
def RetimeMakesSaid : Prop := retimeMakesRow.holds Try.pinned (OpenSpec.ofChange retimeMakesSpec)

/-- ITS FALSE NEIGHBOUR: 'it returns false'. Refute it at one input. -/
def retimeMakesWrong : ChangeSpec := { name := "retimeMakes", fn := fun _ => fun
  | [d1, d2, d3, d4, d5] => { results := [.lit (.bool false)], args := [d1, d2, d3, d4, d5] }
  | _ => none }
def RetimeMakesWrongFalsely : Prop := retimeMakesRow.holds Try.pinned (OpenSpec.ofChange retimeMakesWrong)

/-- 'surtitlelaw6.RetimeComposes': WHATEVER THE INPUT: true; the input reads as it did. -/
def retimeComposesSpec : ChangeSpec := { name := "retimeComposes", fn := fun _ => fun
  | [d1, d2, d3, d4] => { results := [.lit (.bool true)], args := [d1, d2, d3, d4] }
  | _ => none }
def retimeComposesRow : OpenClaim := { program := "ythlpaglldhgmfaa", sum := "2db035ca8031de2d13c21ff83a35e6407a50805973c9247364037f616a906006", func := "surtitle/surtitlelaw6.RetimeComposes", spec := "retimeComposes", inPlace := ["math/bits.Sub64", "math/bits.Add64"], unfollowed := true, recurses := true, named := ["math/bits.divideError", "math/bits.overflowError"], apart := false }
def RetimeComposesSaid : Prop := retimeComposesRow.holds Try.pinned (OpenSpec.ofChange retimeComposesSpec)

/-- ITS FALSE NEIGHBOUR: 'it returns false'. Refute it at one input. -/
def retimeComposesWrong : ChangeSpec := { name := "retimeComposes", fn := fun _ => fun
  | [d1, d2, d3, d4] => { results := [.lit (.bool false)], args := [d1, d2, d3, d4] }
  | _ => none }
def RetimeComposesWrongFalsely : Prop := retimeComposesRow.holds Try.pinned (OpenSpec.ofChange retimeComposesWrong)

/-- 'surtitlelaw6.RetimeInverts': WHATEVER THE INPUT: true; the input reads as it did. -/
def retimeInvertsSpec : ChangeSpec := { name := "retimeInverts", fn := fun _ => fun
  | [d1, d2] => { results := [.lit (.bool true)], args := [d1, d2] }
  | _ => none }
def retimeInvertsRow : OpenClaim := { program := "ythlpaglldhgmfaa", sum := "2db035ca8031de2d13c21ff83a35e6407a50805973c9247364037f616a906006", func := "surtitle/surtitlelaw6.RetimeInverts", spec := "retimeInverts", inPlace := ["math/bits.Sub64", "math/bits.Add64"], unfollowed := true, recurses := true, named := ["math/bits.divideError", "math/bits.overflowError"], apart := false }
def RetimeInvertsSaid : Prop := retimeInvertsRow.holds Try.pinned (OpenSpec.ofChange retimeInvertsSpec)

/-- ITS FALSE NEIGHBOUR: 'it returns false'. Refute it at one input. -/
def retimeInvertsWrong : ChangeSpec := { name := "retimeInverts", fn := fun _ => fun
  | [d1, d2] => { results := [.lit (.bool false)], args := [d1, d2] }
  | _ => none }
def RetimeInvertsWrongFalsely : Prop := retimeInvertsRow.holds Try.pinned (OpenSpec.ofChange retimeInvertsWrong)

/-- 'surtitlelaw6.RetimeThens': WHATEVER THE INPUT: true; the input reads as it did. -/
def retimeThensSpec : ChangeSpec := { name := "retimeThens", fn := fun _ => fun
  | [d1, d2, d3] => { results := [.lit (.bool true)], args := [d1, d2, d3] }
  | _ => none }
def retimeThensRow : OpenClaim := { program := "ythlpaglldhgmfaa", sum := "2db035ca8031de2d13c21ff83a35e6407a50805973c9247364037f616a906006", func := "surtitle/surtitlelaw6.RetimeThens", spec := "retimeThens", inPlace := ["math/bits.Sub64", "math/bits.Add64"], unfollowed := true, recurses := true, named := ["math/bits.divideError", "math/bits.overflowError"], apart := false }
def RetimeThensSaid : Prop := retimeThensRow.holds Try.pinned (OpenSpec.ofChange retimeThensSpec)

/-- ITS FALSE NEIGHBOUR: 'it returns false'. Refute it at one input. -/
def retimeThensWrong : ChangeSpec := { name := "retimeThens", fn := fun _ => fun
  | [d1, d2, d3] => { results := [.lit (.bool false)], args := [d1, d2, d3] }
  | _ => none }
def RetimeThensWrongFalsely : Prop := retimeThensRow.holds Try.pinned (OpenSpec.ofChange retimeThensWrong)

/-- 'surtitlelaw6.RetimeNames': WHATEVER THE INPUT: true; the input reads as it did. -/
def retimeNamesSpec : ChangeSpec := { name := "retimeNames", fn := fun _ => fun
  | [] => { results := [.lit (.bool true)], args := [] }
  | _ => none }
def retimeNamesRow : OpenClaim := { program := "ythlpaglldhgmfaa", sum := "2db035ca8031de2d13c21ff83a35e6407a50805973c9247364037f616a906006", func := "surtitle/surtitlelaw6.RetimeNames", spec := "retimeNames", inPlace := ["math/bits.Sub64", "math/bits.Add64"], unfollowed := true, recurses := true, named := ["math/bits.divideError", "math/bits.overflowError"], apart := false }
def RetimeNamesSaid : Prop := retimeNamesRow.holds Try.pinned (OpenSpec.ofChange retimeNamesSpec)

/-- ITS FALSE NEIGHBOUR: 'it returns false'. Refute it at one input. -/
def retimeNamesWrong : ChangeSpec := { name := "retimeNames", fn := fun _ => fun
  | [] => { results := [.lit (.bool false)], args := [] }
  | _ => none }
def RetimeNamesWrongFalsely : Prop := retimeNamesRow.holds Try.pinned (OpenSpec.ofChange retimeNamesWrong)

/- THE SECOND FORM. 'bulk': how many values and letters a reading holds, each counted each time it is reached (what is shared counts as often as it is met; a slice's spare places count too). A statement '..UptoSaid' is the law's where the arguments, and the package variables that the reading takes, are together of bulk at most 1048576: NARROWER than '..Said'. Prove '..Said' where nothing that the law and all that it calls make is longer than what came in: it says more and counts as full. Else prove '..UptoSaid'. A law counts once. -/
mutual
def uptoBulk {H : Type} : DataW H → Nat
  | .lit (.string bytes) => bytes.length + 1
  | .lit _ => 1
  | .nil => 1
  | .ptr d => uptoBulk d + 1
  | .slice elems spare => uptoBulkAll elems + uptoBulkAll spare + 1
  | .agg parts => uptoBulkAll parts + 1
  | .iface _ d => uptoBulk d + 1
  | .map entries => uptoBulkEntries entries + 1
  | .held _ => 1
def uptoBulkAll {H : Type} : List (DataW H) → Nat
  | [] => 0
  | d :: r => uptoBulk d + uptoBulkAll r
def uptoBulkEntries {H : Type} : List (Lit × DataW H) → Nat
  | [] => 0
  | x :: r => uptoBulkEntry x + uptoBulkEntries r
def uptoBulkEntry {H : Type} : Lit × DataW H → Nat
  | (.string bytes, d) => bytes.length + uptoBulk d + 1
  | (_, d) => uptoBulk d + 1
 end
def uptoSmall : (H : Type) → List (DataW H) → Bool := fun _ ds => decide (uptoBulkAll ds ≤ 1048576)
def OpenSpec.upto (s : _root_.Go.ChangeSpec) : _root_.Go.OpenSpec := { _root_.Go.OpenSpec.ofChange s with cond := some uptoSmall }

/-- 'surtitlelaw6.RetimeRises', WHERE WHAT IT READS IS OF BULK AT MOST 1048576: true; the input reads as it did. -/
def retimeRisesUptoRow : OpenClaim := { program := "ythlpaglldhgmfaa", sum := "2db035ca8031de2d13c21ff83a35e6407a50805973c9247364037f616a906006", func := "surtitle/surtitlelaw6.RetimeRises", spec := "retimeRises", inPlace := ["math/bits.Sub64", "math/bits.Add64"], unfollowed := true, recurses := true, named := ["math/bits.divideError", "math/bits.overflowError"], apart := false, narrowed := true }
def RetimeRisesUptoSaid : Prop := retimeRisesUptoRow.holds Try.pinned (OpenSpec.upto retimeRisesSpec)

/-- 'surtitlelaw6.RetimeOnly', WHERE WHAT IT READS IS OF BULK AT MOST 1048576: true; the input reads as it did. -/
def retimeOnlyUptoRow : OpenClaim := { program := "ythlpaglldhgmfaa", sum := "2db035ca8031de2d13c21ff83a35e6407a50805973c9247364037f616a906006", func := "surtitle/surtitlelaw6.RetimeOnly", spec := "retimeOnly", inPlace := ["math/bits.Sub64", "math/bits.Add64"], unfollowed := true, recurses := true, named := ["math/bits.divideError", "math/bits.overflowError"], apart := false, narrowed := true }
def RetimeOnlyUptoSaid : Prop := retimeOnlyUptoRow.holds Try.pinned (OpenSpec.upto retimeOnlySpec)

/-- 'surtitlelaw6.RetimeMaps', WHERE WHAT IT READS IS OF BULK AT MOST 1048576: true; the input reads as it did. -/
def retimeMapsUptoRow : OpenClaim := { program := "ythlpaglldhgmfaa", sum := "2db035ca8031de2d13c21ff83a35e6407a50805973c9247364037f616a906006", func := "surtitle/surtitlelaw6.RetimeMaps", spec := "retimeMaps", inPlace := ["math/bits.Sub64", "math/bits.Add64"], unfollowed := true, recurses := true, named := ["math/bits.divideError", "math/bits.overflowError"], apart := false, narrowed := true }
def RetimeMapsUptoSaid : Prop := retimeMapsUptoRow.holds Try.pinned (OpenSpec.upto retimeMapsSpec)

/-- 'surtitlelaw6.RetimeOwn', WHERE WHAT IT READS IS OF BULK AT MOST 1048576: true; the input reads as it did. -/
def retimeOwnUptoRow : OpenClaim := { program := "ythlpaglldhgmfaa", sum := "2db035ca8031de2d13c21ff83a35e6407a50805973c9247364037f616a906006", func := "surtitle/surtitlelaw6.RetimeOwn", spec := "retimeOwn", inPlace := ["math/bits.Sub64", "math/bits.Add64"], unfollowed := true, recurses := true, named := ["math/bits.divideError", "math/bits.overflowError"], apart := false, narrowed := true }
def RetimeOwnUptoSaid : Prop := retimeOwnUptoRow.holds Try.pinned (OpenSpec.upto retimeOwnSpec)

/-- 'surtitlelaw6.RetimeMakes', WHERE WHAT IT READS IS OF BULK AT MOST 1048576: true; the input reads as it did. -/
def retimeMakesUptoRow : OpenClaim := { program := "ythlpaglldhgmfaa", sum := "2db035ca8031de2d13c21ff83a35e6407a50805973c9247364037f616a906006", func := "surtitle/surtitlelaw6.RetimeMakes", spec := "retimeMakes", inPlace := ["math/bits.Sub64", "math/bits.Add64"], unfollowed := true, recurses := true, named := ["math/bits.divideError", "math/bits.overflowError"], apart := false, narrowed := true }
def RetimeMakesUptoSaid : Prop := retimeMakesUptoRow.holds Try.pinned (OpenSpec.upto retimeMakesSpec)

/-- 'surtitlelaw6.RetimeComposes', WHERE WHAT IT READS IS OF BULK AT MOST 1048576: true; the input reads as it did. -/
def retimeComposesUptoRow : OpenClaim := { program := "ythlpaglldhgmfaa", sum := "2db035ca8031de2d13c21ff83a35e6407a50805973c9247364037f616a906006", func := "surtitle/surtitlelaw6.RetimeComposes", spec := "retimeComposes", inPlace := ["math/bits.Sub64", "math/bits.Add64"], unfollowed := true, recurses := true, named := ["math/bits.divideError", "math/bits.overflowError"], apart := false, narrowed := true }
def RetimeComposesUptoSaid : Prop := retimeComposesUptoRow.holds Try.pinned (OpenSpec.upto retimeComposesSpec)

/-- 'surtitlelaw6.RetimeInverts', WHERE WHAT IT READS IS OF BULK AT MOST 1048576: true; the input reads as it did. -/
def retimeInvertsUptoRow : OpenClaim := { program := "ythlpaglldhgmfaa", sum := "2db035ca8031de2d13c21ff83a35e6407a50805973c9247364037f616a906006", func := "surtitle/surtitlelaw6.RetimeInverts", spec := "retimeInverts", inPlace := ["math/bits.Sub64", "math/bits.Add64"], unfollowed := true, recurses := true, named := ["math/bits.divideError", "math/bits.overflowError"], apart := false, narrowed := true }
def RetimeInvertsUptoSaid : Prop := retimeInvertsUptoRow.holds Try.pinned (OpenSpec.upto retimeInvertsSpec)

/-- 'surtitlelaw6.RetimeThens', WHERE WHAT IT READS IS OF BULK AT MOST 1048576: true; the input reads as it did. -/
def retimeThensUptoRow : OpenClaim := { program := "ythlpaglldhgmfaa", sum := "2db035ca8031de2d13c21ff83a35e6407a50805973c9247364037f616a906006", func := "surtitle/surtitlelaw6.RetimeThens", spec := "retimeThens", inPlace := ["math/bits.Sub64", "math/bits.Add64"], unfollowed := true, recurses := true, named := ["math/bits.divideError", "math/bits.overflowError"], apart := false, narrowed := true }
def RetimeThensUptoSaid : Prop := retimeThensUptoRow.holds Try.pinned (OpenSpec.upto retimeThensSpec)

/-- 'surtitlelaw6.RetimeNames', WHERE WHAT IT READS IS OF BULK AT MOST 1048576: true; the input reads as it did. -/
def retimeNamesUptoRow : OpenClaim := { program := "ythlpaglldhgmfaa", sum := "2db035ca8031de2d13c21ff83a35e6407a50805973c9247364037f616a906006", func := "surtitle/surtitlelaw6.RetimeNames", spec := "retimeNames", inPlace := ["math/bits.Sub64", "math/bits.Add64"], unfollowed := true, recurses := true, named := ["math/bits.divideError", "math/bits.overflowError"], apart := false, narrowed := true }
def RetimeNamesUptoSaid : Prop := retimeNamesUptoRow.holds Try.pinned (OpenSpec.upto retimeNamesSpec)

end Rows
end Go.Proofs.Ythlpaglldhgmfaa
