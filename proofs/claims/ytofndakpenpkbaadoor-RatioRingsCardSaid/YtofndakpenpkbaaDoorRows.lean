/-
  NARROWER THAN 'FOR EVERY INPUT', by the rows' own cells (each row's printed sentence says how): RatioNews: laid · RatioSums: laid · RatioProducts: laid · RatioOrders: laid · RatioRings: laid · RatioRows: laid · RatioOwn: laid · RatioWholes: laid · RatioCounts: laid · RatioNear: laid · RatioSnaps: laid · RatioNames: laid · RatioBack: laid.
  DERIVED. THE GIVEN ROWS OF THIS SEAT. 13 by the template 'for every input the law returns true; each argument reads behind the call as it read before'; 0 by the template 'total and deterministic' (their statements: YtofndakpenpkbaaDoorTotals.lean).
  GIVEN WITH THE SEED: the statements are not yours to turn. If you find one false, say at which input.
  Laid BY PROGRAM, IN A SANDBOX (cutbox-rows.mjs): the forced cells as the released guide's own fill.sh prints them over the translation d21af9f92176b4c2… (all of the seat's roots in one cut). By AI agents, Wed Nov 11 2026. No macro, syntax, notation, axiom, sorry.
-/
import Derived.Test.YtofndakpenpkbaaDoorChecked
import GoSem.PinnedTables
import GoSem.Claim
import GoSem.ClaimJoined
import GoSem.ClaimMapViews
import Derived.JoinedTies
import Derived.KernelRfl
namespace Go.Proofs.YtofndakpenpkbaaDoor
/- THE CELL 'sum', in the pinned program and in every row, IS THE sha256 OF THE DUMP (.gsa) THAT YtofndakpenpkbaaDoorProg.lean LOADS. Nothing in Lean hashes anything: it is a label: what it is worth is what the hold of that sum in a sandbox is worth. -/
noncomputable def Tryd.pinned : Pinned := { name := "ytofndakpenpkbaadoor", sum := "d21af9f92176b4c2cfbdef34ad6c58f9596d6cc6fbd5ec00bcc77399c209e338", checked := Tryd.checked }
namespace Rows
def none {H : Type} : Left H := { results := [], args := [] }

/- WHAT THE LISTED PACKAGE-LEVEL VARIABLES READ AS WHEN THE CALL BEGINS. Each datum BY PROGRAM (the guide's laid-datum.mjs) off the statement by which the dump's own 'gosem.cut.vars' lays the variable. In a bare row this is a premise. The card (YtofndakpenpkbaaDoorCards.lean) ties it to the program's text. -/
def laid_unicode_utf8_acceptRanges {H : Type} : DataW H := .agg [.agg [.lit (.int .u8 128), .lit (.int .u8 191)], .agg [.lit (.int .u8 160), .lit (.int .u8 191)], .agg [.lit (.int .u8 128), .lit (.int .u8 159)], .agg [.lit (.int .u8 144), .lit (.int .u8 191)], .agg [.lit (.int .u8 128), .lit (.int .u8 143)], .agg [.lit (.int .u8 0), .lit (.int .u8 0)], .agg [.lit (.int .u8 0), .lit (.int .u8 0)], .agg [.lit (.int .u8 0), .lit (.int .u8 0)], .agg [.lit (.int .u8 0), .lit (.int .u8 0)], .agg [.lit (.int .u8 0), .lit (.int .u8 0)], .agg [.lit (.int .u8 0), .lit (.int .u8 0)], .agg [.lit (.int .u8 0), .lit (.int .u8 0)], .agg [.lit (.int .u8 0), .lit (.int .u8 0)], .agg [.lit (.int .u8 0), .lit (.int .u8 0)], .agg [.lit (.int .u8 0), .lit (.int .u8 0)], .agg [.lit (.int .u8 0), .lit (.int .u8 0)]]
/-- One of Go's own tables, pinned by name: the form's constant. -/
def laid_unicode_utf8_first : DataW Unit := Go.Pinned.utf8First
def laid_math_bits_deBruijn32tab {H : Type} : DataW H := .agg [.lit (.int .u8 0), .lit (.int .u8 1), .lit (.int .u8 28), .lit (.int .u8 2), .lit (.int .u8 29), .lit (.int .u8 14), .lit (.int .u8 24), .lit (.int .u8 3), .lit (.int .u8 30), .lit (.int .u8 22), .lit (.int .u8 20), .lit (.int .u8 15), .lit (.int .u8 25), .lit (.int .u8 17), .lit (.int .u8 4), .lit (.int .u8 8), .lit (.int .u8 31), .lit (.int .u8 27), .lit (.int .u8 13), .lit (.int .u8 23), .lit (.int .u8 21), .lit (.int .u8 19), .lit (.int .u8 16), .lit (.int .u8 7), .lit (.int .u8 26), .lit (.int .u8 12), .lit (.int .u8 18), .lit (.int .u8 6), .lit (.int .u8 11), .lit (.int .u8 5), .lit (.int .u8 10), .lit (.int .u8 9)]
def laid_math_bits_deBruijn64tab {H : Type} : DataW H := .agg [.lit (.int .u8 0), .lit (.int .u8 1), .lit (.int .u8 56), .lit (.int .u8 2), .lit (.int .u8 57), .lit (.int .u8 49), .lit (.int .u8 28), .lit (.int .u8 3), .lit (.int .u8 61), .lit (.int .u8 58), .lit (.int .u8 42), .lit (.int .u8 50), .lit (.int .u8 38), .lit (.int .u8 29), .lit (.int .u8 17), .lit (.int .u8 4), .lit (.int .u8 62), .lit (.int .u8 47), .lit (.int .u8 59), .lit (.int .u8 36), .lit (.int .u8 45), .lit (.int .u8 43), .lit (.int .u8 51), .lit (.int .u8 22), .lit (.int .u8 53), .lit (.int .u8 39), .lit (.int .u8 33), .lit (.int .u8 30), .lit (.int .u8 24), .lit (.int .u8 18), .lit (.int .u8 12), .lit (.int .u8 5), .lit (.int .u8 63), .lit (.int .u8 55), .lit (.int .u8 48), .lit (.int .u8 27), .lit (.int .u8 60), .lit (.int .u8 41), .lit (.int .u8 37), .lit (.int .u8 16), .lit (.int .u8 46), .lit (.int .u8 35), .lit (.int .u8 44), .lit (.int .u8 21), .lit (.int .u8 52), .lit (.int .u8 32), .lit (.int .u8 23), .lit (.int .u8 11), .lit (.int .u8 54), .lit (.int .u8 26), .lit (.int .u8 40), .lit (.int .u8 15), .lit (.int .u8 34), .lit (.int .u8 20), .lit (.int .u8 31), .lit (.int .u8 10), .lit (.int .u8 25), .lit (.int .u8 14), .lit (.int .u8 19), .lit (.int .u8 9), .lit (.int .u8 13), .lit (.int .u8 8), .lit (.int .u8 7), .lit (.int .u8 6)]
def laid_internal_strconv_uint64pow10 {H : Type} : DataW H := .agg [.lit (.int .u64 1), .lit (.int .u64 10), .lit (.int .u64 100), .lit (.int .u64 1000), .lit (.int .u64 10000), .lit (.int .u64 100000), .lit (.int .u64 1000000), .lit (.int .u64 10000000), .lit (.int .u64 100000000), .lit (.int .u64 1000000000), .lit (.int .u64 10000000000), .lit (.int .u64 100000000000), .lit (.int .u64 1000000000000), .lit (.int .u64 10000000000000), .lit (.int .u64 100000000000000), .lit (.int .u64 1000000000000000), .lit (.int .u64 10000000000000000), .lit (.int .u64 100000000000000000), .lit (.int .u64 1000000000000000000), .lit (.int .u64 10000000000000000000)]

/-- 'surtitlelaw3.RatioNews': WHATEVER THE INPUT: true; the input reads as it did. -/
def ratioNewsSpec : ChangeSpec := { name := "ratioNews", fn := fun _ => fun
  | [d1, d2] => { results := [.lit (.bool true)], args := [d1, d2] }
  | _ => none }
def ratioNewsRow : OpenClaim := { program := "ytofndakpenpkbaadoor", sum := "d21af9f92176b4c2cfbdef34ad6c58f9596d6cc6fbd5ec00bcc77399c209e338", func := "surtitle/surtitlelaw3.RatioNews", spec := "ratioNews", inPlace := ["math/bits.Sub64", "math/bits.Add64", "internal/bytealg.IndexByteString", "internal/bytealg.IndexString"], named := ["math/bits.divideError", "math/bits.overflowError", "internal/bytealg.MaxLen", "unicode/utf8.first", "unicode/utf8.acceptRanges"], apart := false, laid := [("unicode/utf8.acceptRanges", laid_unicode_utf8_acceptRanges), ("unicode/utf8.first", laid_unicode_utf8_first)] }
def RatioNewsSaid : Prop := ratioNewsRow.holds Tryd.pinned (OpenSpec.ofChange ratioNewsSpec)

/-- ITS FALSE NEIGHBOUR: 'it returns false'. Refute it at one input. -/
def ratioNewsWrong : ChangeSpec := { name := "ratioNews", fn := fun _ => fun
  | [d1, d2] => { results := [.lit (.bool false)], args := [d1, d2] }
  | _ => none }
def RatioNewsWrongFalsely : Prop := ratioNewsRow.holds Tryd.pinned (OpenSpec.ofChange ratioNewsWrong)

/-- 'surtitlelaw3.RatioSums': WHATEVER THE INPUT: true; the input reads as it did. -/
def ratioSumsSpec : ChangeSpec := { name := "ratioSums", fn := fun _ => fun
  | [d1, d2] => { results := [.lit (.bool true)], args := [d1, d2] }
  | _ => none }
def ratioSumsRow : OpenClaim := { program := "ytofndakpenpkbaadoor", sum := "d21af9f92176b4c2cfbdef34ad6c58f9596d6cc6fbd5ec00bcc77399c209e338", func := "surtitle/surtitlelaw3.RatioSums", spec := "ratioSums", inPlace := ["math/bits.Sub64", "math/bits.Add64", "internal/bytealg.IndexByteString", "internal/bytealg.IndexString"], recurses := true, named := ["math/bits.divideError", "math/bits.overflowError", "internal/bytealg.MaxLen", "unicode/utf8.first", "unicode/utf8.acceptRanges"], apart := false, laid := [("unicode/utf8.acceptRanges", laid_unicode_utf8_acceptRanges), ("unicode/utf8.first", laid_unicode_utf8_first)] }
def RatioSumsSaid : Prop := ratioSumsRow.holds Tryd.pinned (OpenSpec.ofChange ratioSumsSpec)

/-- ITS FALSE NEIGHBOUR: 'it returns false'. Refute it at one input. -/
def ratioSumsWrong : ChangeSpec := { name := "ratioSums", fn := fun _ => fun
  | [d1, d2] => { results := [.lit (.bool false)], args := [d1, d2] }
  | _ => none }
def RatioSumsWrongFalsely : Prop := ratioSumsRow.holds Tryd.pinned (OpenSpec.ofChange ratioSumsWrong)

/-- 'surtitlelaw3.RatioProducts': WHATEVER THE INPUT: true; the input reads as it did. -/
def ratioProductsSpec : ChangeSpec := { name := "ratioProducts", fn := fun _ => fun
  | [d1, d2] => { results := [.lit (.bool true)], args := [d1, d2] }
  | _ => none }
def ratioProductsRow : OpenClaim := { program := "ytofndakpenpkbaadoor", sum := "d21af9f92176b4c2cfbdef34ad6c58f9596d6cc6fbd5ec00bcc77399c209e338", func := "surtitle/surtitlelaw3.RatioProducts", spec := "ratioProducts", inPlace := ["math/bits.Sub64", "math/bits.Add64", "internal/bytealg.IndexByteString", "internal/bytealg.IndexString"], named := ["math/bits.divideError", "math/bits.overflowError", "internal/bytealg.MaxLen", "unicode/utf8.first", "unicode/utf8.acceptRanges"], apart := false, laid := [("unicode/utf8.acceptRanges", laid_unicode_utf8_acceptRanges), ("unicode/utf8.first", laid_unicode_utf8_first)] }
def RatioProductsSaid : Prop := ratioProductsRow.holds Tryd.pinned (OpenSpec.ofChange ratioProductsSpec)

/-- ITS FALSE NEIGHBOUR: 'it returns false'. Refute it at one input. -/
def ratioProductsWrong : ChangeSpec := { name := "ratioProducts", fn := fun _ => fun
  | [d1, d2] => { results := [.lit (.bool false)], args := [d1, d2] }
  | _ => none }
def RatioProductsWrongFalsely : Prop := ratioProductsRow.holds Tryd.pinned (OpenSpec.ofChange ratioProductsWrong)

/-- 'surtitlelaw3.RatioOrders': WHATEVER THE INPUT: true; the input reads as it did. -/
def ratioOrdersSpec : ChangeSpec := { name := "ratioOrders", fn := fun _ => fun
  | [d1, d2, d3] => { results := [.lit (.bool true)], args := [d1, d2, d3] }
  | _ => none }
def ratioOrdersRow : OpenClaim := { program := "ytofndakpenpkbaadoor", sum := "d21af9f92176b4c2cfbdef34ad6c58f9596d6cc6fbd5ec00bcc77399c209e338", func := "surtitle/surtitlelaw3.RatioOrders", spec := "ratioOrders", inPlace := ["math/bits.Sub64", "math/bits.Add64", "internal/bytealg.IndexByteString", "internal/bytealg.IndexString"], named := ["math/bits.divideError", "math/bits.overflowError", "internal/bytealg.MaxLen", "unicode/utf8.first", "unicode/utf8.acceptRanges"], apart := false, laid := [("unicode/utf8.acceptRanges", laid_unicode_utf8_acceptRanges), ("unicode/utf8.first", laid_unicode_utf8_first)] }
def RatioOrdersSaid : Prop := ratioOrdersRow.holds Tryd.pinned (OpenSpec.ofChange ratioOrdersSpec)

/-- ITS FALSE NEIGHBOUR: 'it returns false'. Refute it at one input. -/
def ratioOrdersWrong : ChangeSpec := { name := "ratioOrders", fn := fun _ => fun
  | [d1, d2, d3] => { results := [.lit (.bool false)], args := [d1, d2, d3] }
  | _ => none }
def RatioOrdersWrongFalsely : Prop := ratioOrdersRow.holds Tryd.pinned (OpenSpec.ofChange ratioOrdersWrong)

/-- 'surtitlelaw3.RatioRings': WHATEVER THE INPUT: true; the input reads as it did. -/
def ratioRingsSpec : ChangeSpec := { name := "ratioRings", fn := fun _ => fun
  | [d1, d2, d3] => { results := [.lit (.bool true)], args := [d1, d2, d3] }
  | _ => none }
def ratioRingsRow : OpenClaim := { program := "ytofndakpenpkbaadoor", sum := "d21af9f92176b4c2cfbdef34ad6c58f9596d6cc6fbd5ec00bcc77399c209e338", func := "surtitle/surtitlelaw3.RatioRings", spec := "ratioRings", inPlace := ["math/bits.Sub64", "math/bits.Add64", "internal/bytealg.IndexByteString", "internal/bytealg.IndexString"], named := ["math/bits.divideError", "math/bits.overflowError", "internal/bytealg.MaxLen", "unicode/utf8.first", "unicode/utf8.acceptRanges"], apart := false, laid := [("unicode/utf8.acceptRanges", laid_unicode_utf8_acceptRanges), ("unicode/utf8.first", laid_unicode_utf8_first)] }
def RatioRingsSaid : Prop := ratioRingsRow.holds Tryd.pinned (OpenSpec.ofChange ratioRingsSpec)

/-- ITS FALSE NEIGHBOUR: 'it returns false'. Refute it at one input. -/
def ratioRingsWrong : ChangeSpec := { name := "ratioRings", fn := fun _ => fun
  | [d1, d2, d3] => { results := [.lit (.bool false)], args := [d1, d2, d3] }
  | _ => none }
def RatioRingsWrongFalsely : Prop := ratioRingsRow.holds Tryd.pinned (OpenSpec.ofChange ratioRingsWrong)

/-- 'surtitlelaw3.RatioRows': WHATEVER THE INPUT: true; the input reads as it did. -/
def ratioRowsSpec : ChangeSpec := { name := "ratioRows", fn := fun _ => fun
  | [d] => { results := [.lit (.bool true)], args := [d] }
  | _ => none }
def ratioRowsRow : OpenClaim := { program := "ytofndakpenpkbaadoor", sum := "d21af9f92176b4c2cfbdef34ad6c58f9596d6cc6fbd5ec00bcc77399c209e338", func := "surtitle/surtitlelaw3.RatioRows", spec := "ratioRows", inPlace := ["math/bits.Sub64", "math/bits.Add64", "internal/bytealg.IndexByteString", "internal/bytealg.IndexString"], recurses := true, named := ["math/bits.divideError", "math/bits.overflowError", "internal/bytealg.MaxLen", "unicode/utf8.first", "unicode/utf8.acceptRanges"], apart := false, laid := [("unicode/utf8.acceptRanges", laid_unicode_utf8_acceptRanges), ("unicode/utf8.first", laid_unicode_utf8_first)] }
def RatioRowsSaid : Prop := ratioRowsRow.holds Tryd.pinned (OpenSpec.ofChange ratioRowsSpec)

/-- ITS FALSE NEIGHBOUR: 'it returns false'. Refute it at one input. -/
def ratioRowsWrong : ChangeSpec := { name := "ratioRows", fn := fun _ => fun
  | [d] => { results := [.lit (.bool false)], args := [d] }
  | _ => none }
def RatioRowsWrongFalsely : Prop := ratioRowsRow.holds Tryd.pinned (OpenSpec.ofChange ratioRowsWrong)

/-- 'surtitlelaw3.RatioOwn': WHATEVER THE INPUT: true; the input reads as it did. -/
def ratioOwnSpec : ChangeSpec := { name := "ratioOwn", fn := fun _ => fun
  | [d] => { results := [.lit (.bool true)], args := [d] }
  | _ => none }
def ratioOwnRow : OpenClaim := { program := "ytofndakpenpkbaadoor", sum := "d21af9f92176b4c2cfbdef34ad6c58f9596d6cc6fbd5ec00bcc77399c209e338", func := "surtitle/surtitlelaw3.RatioOwn", spec := "ratioOwn", inPlace := ["math/bits.Sub64", "math/bits.Add64", "internal/bytealg.IndexByteString", "internal/bytealg.IndexString"], named := ["math/bits.divideError", "math/bits.overflowError", "internal/bytealg.MaxLen", "unicode/utf8.first", "unicode/utf8.acceptRanges"], apart := false, laid := [("unicode/utf8.acceptRanges", laid_unicode_utf8_acceptRanges), ("unicode/utf8.first", laid_unicode_utf8_first)] }
def RatioOwnSaid : Prop := ratioOwnRow.holds Tryd.pinned (OpenSpec.ofChange ratioOwnSpec)

/-- ITS FALSE NEIGHBOUR: 'it returns false'. Refute it at one input. -/
def ratioOwnWrong : ChangeSpec := { name := "ratioOwn", fn := fun _ => fun
  | [d] => { results := [.lit (.bool false)], args := [d] }
  | _ => none }
def RatioOwnWrongFalsely : Prop := ratioOwnRow.holds Tryd.pinned (OpenSpec.ofChange ratioOwnWrong)

/-- 'surtitlelaw3.RatioWholes': WHATEVER THE INPUT: true; the input reads as it did. -/
def ratioWholesSpec : ChangeSpec := { name := "ratioWholes", fn := fun _ => fun
  | [d1, d2, d3] => { results := [.lit (.bool true)], args := [d1, d2, d3] }
  | _ => none }
def ratioWholesRow : OpenClaim := { program := "ytofndakpenpkbaadoor", sum := "d21af9f92176b4c2cfbdef34ad6c58f9596d6cc6fbd5ec00bcc77399c209e338", func := "surtitle/surtitlelaw3.RatioWholes", spec := "ratioWholes", inPlace := ["math/bits.Sub64", "math/bits.Add64", "internal/bytealg.IndexByteString", "internal/bytealg.IndexString"], recurses := true, named := ["math/bits.divideError", "math/bits.overflowError", "internal/bytealg.MaxLen", "unicode/utf8.first", "unicode/utf8.acceptRanges"], apart := false, laid := [("unicode/utf8.acceptRanges", laid_unicode_utf8_acceptRanges), ("unicode/utf8.first", laid_unicode_utf8_first)] }
def RatioWholesSaid : Prop := ratioWholesRow.holds Tryd.pinned (OpenSpec.ofChange ratioWholesSpec)

/-- ITS FALSE NEIGHBOUR: 'it returns false'. Refute it at one input. -/
def ratioWholesWrong : ChangeSpec := { name := "ratioWholes", fn := fun _ => fun
  | [d1, d2, d3] => { results := [.lit (.bool false)], args := [d1, d2, d3] }
  | _ => none }
def RatioWholesWrongFalsely : Prop := ratioWholesRow.holds Tryd.pinned (OpenSpec.ofChange ratioWholesWrong)

/-- 'surtitlelaw3.RatioCounts': WHATEVER THE INPUT: true; the input reads as it did. -/
def ratioCountsSpec : ChangeSpec := { name := "ratioCounts", fn := fun _ => fun
  | [d1, d2, d3] => { results := [.lit (.bool true)], args := [d1, d2, d3] }
  | _ => none }
def ratioCountsRow : OpenClaim := { program := "ytofndakpenpkbaadoor", sum := "d21af9f92176b4c2cfbdef34ad6c58f9596d6cc6fbd5ec00bcc77399c209e338", func := "surtitle/surtitlelaw3.RatioCounts", spec := "ratioCounts", inPlace := ["math/bits.Sub64", "math/bits.Add64", "internal/bytealg.IndexByteString", "internal/bytealg.IndexString"], named := ["math/bits.divideError", "math/bits.overflowError", "internal/bytealg.MaxLen", "unicode/utf8.first", "unicode/utf8.acceptRanges"], apart := false, laid := [("unicode/utf8.acceptRanges", laid_unicode_utf8_acceptRanges), ("unicode/utf8.first", laid_unicode_utf8_first)] }
def RatioCountsSaid : Prop := ratioCountsRow.holds Tryd.pinned (OpenSpec.ofChange ratioCountsSpec)

/-- ITS FALSE NEIGHBOUR: 'it returns false'. Refute it at one input. -/
def ratioCountsWrong : ChangeSpec := { name := "ratioCounts", fn := fun _ => fun
  | [d1, d2, d3] => { results := [.lit (.bool false)], args := [d1, d2, d3] }
  | _ => none }
def RatioCountsWrongFalsely : Prop := ratioCountsRow.holds Tryd.pinned (OpenSpec.ofChange ratioCountsWrong)

/-- 'surtitlelaw3.RatioNear': WHATEVER THE INPUT: true; the input reads as it did. -/
def ratioNearSpec : ChangeSpec := { name := "ratioNear", fn := fun _ => fun
  | [d1, d2] => { results := [.lit (.bool true)], args := [d1, d2] }
  | _ => none }
def ratioNearRow : OpenClaim := { program := "ytofndakpenpkbaadoor", sum := "d21af9f92176b4c2cfbdef34ad6c58f9596d6cc6fbd5ec00bcc77399c209e338", func := "surtitle/surtitlelaw3.RatioNear", spec := "ratioNear", inPlace := ["math/bits.Sub64", "math/bits.Add64", "internal/bytealg.IndexByteString", "internal/bytealg.IndexString"], named := ["math/bits.divideError", "math/bits.overflowError", "internal/bytealg.MaxLen", "unicode/utf8.first", "unicode/utf8.acceptRanges"], apart := false, laid := [("unicode/utf8.acceptRanges", laid_unicode_utf8_acceptRanges), ("unicode/utf8.first", laid_unicode_utf8_first)] }
def RatioNearSaid : Prop := ratioNearRow.holds Tryd.pinned (OpenSpec.ofChange ratioNearSpec)

/-- ITS FALSE NEIGHBOUR: 'it returns false'. Refute it at one input. -/
def ratioNearWrong : ChangeSpec := { name := "ratioNear", fn := fun _ => fun
  | [d1, d2] => { results := [.lit (.bool false)], args := [d1, d2] }
  | _ => none }
def RatioNearWrongFalsely : Prop := ratioNearRow.holds Tryd.pinned (OpenSpec.ofChange ratioNearWrong)

/-- 'surtitlelaw3.RatioSnaps': WHATEVER THE INPUT: true; the input reads as it did. -/
def ratioSnapsSpec : ChangeSpec := { name := "ratioSnaps", fn := fun _ => fun
  | [d1, d2, d3] => { results := [.lit (.bool true)], args := [d1, d2, d3] }
  | _ => none }
def ratioSnapsRow : OpenClaim := { program := "ytofndakpenpkbaadoor", sum := "d21af9f92176b4c2cfbdef34ad6c58f9596d6cc6fbd5ec00bcc77399c209e338", func := "surtitle/surtitlelaw3.RatioSnaps", spec := "ratioSnaps", inPlace := ["math/bits.Sub64", "math/bits.Add64", "internal/bytealg.IndexByteString", "internal/bytealg.IndexString"], recurses := true, named := ["math/bits.divideError", "math/bits.overflowError", "internal/bytealg.MaxLen", "unicode/utf8.first", "unicode/utf8.acceptRanges"], apart := false, laid := [("unicode/utf8.acceptRanges", laid_unicode_utf8_acceptRanges), ("unicode/utf8.first", laid_unicode_utf8_first)] }
def RatioSnapsSaid : Prop := ratioSnapsRow.holds Tryd.pinned (OpenSpec.ofChange ratioSnapsSpec)

/-- ITS FALSE NEIGHBOUR: 'it returns false'. Refute it at one input. -/
def ratioSnapsWrong : ChangeSpec := { name := "ratioSnaps", fn := fun _ => fun
  | [d1, d2, d3] => { results := [.lit (.bool false)], args := [d1, d2, d3] }
  | _ => none }
def RatioSnapsWrongFalsely : Prop := ratioSnapsRow.holds Tryd.pinned (OpenSpec.ofChange ratioSnapsWrong)

/-- 'surtitlelaw3.RatioNames': WHATEVER THE INPUT: true; the input reads as it did. -/
def ratioNamesSpec : ChangeSpec := { name := "ratioNames", fn := fun _ => fun
  | [] => { results := [.lit (.bool true)], args := [] }
  | _ => none }
def ratioNamesRow : OpenClaim := { program := "ytofndakpenpkbaadoor", sum := "d21af9f92176b4c2cfbdef34ad6c58f9596d6cc6fbd5ec00bcc77399c209e338", func := "surtitle/surtitlelaw3.RatioNames", spec := "ratioNames", inPlace := ["math/bits.Sub64", "math/bits.Add64", "internal/bytealg.IndexByteString", "internal/bytealg.IndexString"], named := ["math/bits.divideError", "math/bits.overflowError", "internal/bytealg.MaxLen", "unicode/utf8.first", "unicode/utf8.acceptRanges"], apart := false, laid := [("unicode/utf8.acceptRanges", laid_unicode_utf8_acceptRanges), ("unicode/utf8.first", laid_unicode_utf8_first)] }
def RatioNamesSaid : Prop := ratioNamesRow.holds Tryd.pinned (OpenSpec.ofChange ratioNamesSpec)

/-- ITS FALSE NEIGHBOUR: 'it returns false'. Refute it at one input. -/
def ratioNamesWrong : ChangeSpec := { name := "ratioNames", fn := fun _ => fun
  | [] => { results := [.lit (.bool false)], args := [] }
  | _ => none }
def RatioNamesWrongFalsely : Prop := ratioNamesRow.holds Tryd.pinned (OpenSpec.ofChange ratioNamesWrong)

/-- 'surtitlelaw3.RatioBack': WHATEVER THE INPUT: true; the input reads as it did. -/
def ratioBackSpec : ChangeSpec := { name := "ratioBack", fn := fun _ => fun
  | [d1, d2, d3] => { results := [.lit (.bool true)], args := [d1, d2, d3] }
  | _ => none }
def ratioBackRow : OpenClaim := { program := "ytofndakpenpkbaadoor", sum := "d21af9f92176b4c2cfbdef34ad6c58f9596d6cc6fbd5ec00bcc77399c209e338", func := "surtitle/surtitlelaw3.RatioBack", spec := "ratioBack", inPlace := ["math/bits.Sub64", "math/bits.Add64", "internal/bytealg.IndexByteString", "internal/bytealg.IndexString"], named := ["math/bits.divideError", "math/bits.overflowError", "internal/bytealg.MaxLen", "unicode/utf8.first", "unicode/utf8.acceptRanges", "internal/strconv.uint64pow10", "math/bits.deBruijn32tab", "math/bits.deBruijn64tab"], apart := false, laid := [("math/bits.deBruijn32tab", laid_math_bits_deBruijn32tab), ("math/bits.deBruijn64tab", laid_math_bits_deBruijn64tab), ("internal/strconv.uint64pow10", laid_internal_strconv_uint64pow10), ("unicode/utf8.acceptRanges", laid_unicode_utf8_acceptRanges), ("unicode/utf8.first", laid_unicode_utf8_first)] }
def RatioBackSaid : Prop := ratioBackRow.holds Tryd.pinned (OpenSpec.ofChange ratioBackSpec)

/-- ITS FALSE NEIGHBOUR: 'it returns false'. Refute it at one input. -/
def ratioBackWrong : ChangeSpec := { name := "ratioBack", fn := fun _ => fun
  | [d1, d2, d3] => { results := [.lit (.bool false)], args := [d1, d2, d3] }
  | _ => none }
def RatioBackWrongFalsely : Prop := ratioBackRow.holds Tryd.pinned (OpenSpec.ofChange ratioBackWrong)

/- THE SECOND FORM. 'bulk': how many values and letters a reading holds, each counted each time it is reached (what is shared counts as often as it is met; a slice's spare places count too). A statement '..UptoSaid' is the law's where the arguments, and the package variables that the reading takes, are together of bulk at most 1048576: NARROWER than '..Said'. Prove '..Said' where nothing that the law and all that it calls make is longer than what came in: it says more and counts as full. Else prove '..UptoSaid'. A law counts once. -/
mutual
def uptoBulk {H : Type} : DataW H → Nat
  | .lit (.string bytes) => bytes.length + 1
  | .lit _ => 1
  | .nil => 1
  | .ptr d => uptoBulk d + 1
  | .slice elems spare => uptoBulkAll elems + uptoBulkAll spare + 1
  | .agg parts => uptoBulkAll parts + 1
  | .iface _ d => uptoBulk d + 1
  | .map entries => uptoBulkEntries entries + 1
  | .held _ => 1
def uptoBulkAll {H : Type} : List (DataW H) → Nat
  | [] => 0
  | d :: r => uptoBulk d + uptoBulkAll r
def uptoBulkEntries {H : Type} : List (Lit × DataW H) → Nat
  | [] => 0
  | x :: r => uptoBulkEntry x + uptoBulkEntries r
def uptoBulkEntry {H : Type} : Lit × DataW H → Nat
  | (.string bytes, d) => bytes.length + uptoBulk d + 1
  | (_, d) => uptoBulk d + 1
 end
def uptoSmall : (H : Type) → List (DataW H) → Bool := fun _ ds => decide (uptoBulkAll ds ≤ 1048576)
def OpenSpec.upto (s : _root_.Go.ChangeSpec) : _root_.Go.OpenSpec := { _root_.Go.OpenSpec.ofChange s with cond := some uptoSmall }

/-- 'surtitlelaw3.RatioNews', WHERE WHAT IT READS IS OF BULK AT MOST 1048576: true; the input reads as it did. -/
def ratioNewsUptoRow : OpenClaim := { program := "ytofndakpenpkbaadoor", sum := "d21af9f92176b4c2cfbdef34ad6c58f9596d6cc6fbd5ec00bcc77399c209e338", func := "surtitle/surtitlelaw3.RatioNews", spec := "ratioNews", inPlace := ["math/bits.Sub64", "math/bits.Add64", "internal/bytealg.IndexByteString", "internal/bytealg.IndexString"], named := ["math/bits.divideError", "math/bits.overflowError", "internal/bytealg.MaxLen", "unicode/utf8.first", "unicode/utf8.acceptRanges"], apart := false, laid := [("unicode/utf8.acceptRanges", laid_unicode_utf8_acceptRanges), ("unicode/utf8.first", laid_unicode_utf8_first)], narrowed := true }
def RatioNewsUptoSaid : Prop := ratioNewsUptoRow.holds Tryd.pinned (OpenSpec.upto ratioNewsSpec)

/-- 'surtitlelaw3.RatioSums', WHERE WHAT IT READS IS OF BULK AT MOST 1048576: true; the input reads as it did. -/
def ratioSumsUptoRow : OpenClaim := { program := "ytofndakpenpkbaadoor", sum := "d21af9f92176b4c2cfbdef34ad6c58f9596d6cc6fbd5ec00bcc77399c209e338", func := "surtitle/surtitlelaw3.RatioSums", spec := "ratioSums", inPlace := ["math/bits.Sub64", "math/bits.Add64", "internal/bytealg.IndexByteString", "internal/bytealg.IndexString"], recurses := true, named := ["math/bits.divideError", "math/bits.overflowError", "internal/bytealg.MaxLen", "unicode/utf8.first", "unicode/utf8.acceptRanges"], apart := false, laid := [("unicode/utf8.acceptRanges", laid_unicode_utf8_acceptRanges), ("unicode/utf8.first", laid_unicode_utf8_first)], narrowed := true }
def RatioSumsUptoSaid : Prop := ratioSumsUptoRow.holds Tryd.pinned (OpenSpec.upto ratioSumsSpec)

/-- 'surtitlelaw3.RatioProducts', WHERE WHAT IT READS IS OF BULK AT MOST 1048576: true; the input reads as it did. -/
def ratioProductsUptoRow : OpenClaim := { program := "ytofndakpenpkbaadoor", sum := "d21af9f92176b4c2cfbdef34ad6c58f9596d6cc6fbd5ec00bcc77399c209e338", func := "surtitle/surtitlelaw3.RatioProducts", spec := "ratioProducts", inPlace := ["math/bits.Sub64", "math/bits.Add64", "internal/bytealg.IndexByteString", "internal/bytealg.IndexString"], named := ["math/bits.divideError", "math/bits.overflowError", "internal/bytealg.MaxLen", "unicode/utf8.first", "unicode/utf8.acceptRanges"], apart := false, laid := [("unicode/utf8.acceptRanges", laid_unicode_utf8_acceptRanges), ("unicode/utf8.first", laid_unicode_utf8_first)], narrowed := true }
def RatioProductsUptoSaid : Prop := ratioProductsUptoRow.holds Tryd.pinned (OpenSpec.upto ratioProductsSpec)

/-- 'surtitlelaw3.RatioOrders', WHERE WHAT IT READS IS OF BULK AT MOST 1048576: true; the input reads as it did. -/
def ratioOrdersUptoRow : OpenClaim := { program := "ytofndakpenpkbaadoor", sum := "d21af9f92176b4c2cfbdef34ad6c58f9596d6cc6fbd5ec00bcc77399c209e338", func := "surtitle/surtitlelaw3.RatioOrders", spec := "ratioOrders", inPlace := ["math/bits.Sub64", "math/bits.Add64", "internal/bytealg.IndexByteString", "internal/bytealg.IndexString"], named := ["math/bits.divideError", "math/bits.overflowError", "internal/bytealg.MaxLen", "unicode/utf8.first", "unicode/utf8.acceptRanges"], apart := false, laid := [("unicode/utf8.acceptRanges", laid_unicode_utf8_acceptRanges), ("unicode/utf8.first", laid_unicode_utf8_first)], narrowed := true }
def RatioOrdersUptoSaid : Prop := ratioOrdersUptoRow.holds Tryd.pinned (OpenSpec.upto ratioOrdersSpec)

/-- 'surtitlelaw3.RatioRings', WHERE WHAT IT READS IS OF BULK AT MOST 1048576: true; the input reads as it did. -/
def ratioRingsUptoRow : OpenClaim := { program := "ytofndakpenpkbaadoor", sum := "d21af9f92176b4c2cfbdef34ad6c58f9596d6cc6fbd5ec00bcc77399c209e338", func := "surtitle/surtitlelaw3.RatioRings", spec := "ratioRings", inPlace := ["math/bits.Sub64", "math/bits.Add64", "internal/bytealg.IndexByteString", "internal/bytealg.IndexString"], named := ["math/bits.divideError", "math/bits.overflowError", "internal/bytealg.MaxLen", "unicode/utf8.first", "unicode/utf8.acceptRanges"], apart := false, laid := [("unicode/utf8.acceptRanges", laid_unicode_utf8_acceptRanges), ("unicode/utf8.first", laid_unicode_utf8_first)], narrowed := true }
def RatioRingsUptoSaid : Prop := ratioRingsUptoRow.holds Tryd.pinned (OpenSpec.upto ratioRingsSpec)

/-- 'surtitlelaw3.RatioRows', WHERE WHAT IT READS IS OF BULK AT MOST 1048576: true; the input reads as it did. -/
def ratioRowsUptoRow : OpenClaim := { program := "ytofndakpenpkbaadoor", sum := "d21af9f92176b4c2cfbdef34ad6c58f9596d6cc6fbd5ec00bcc77399c209e338", func := "surtitle/surtitlelaw3.RatioRows", spec := "ratioRows", inPlace := ["math/bits.Sub64", "math/bits.Add64", "internal/bytealg.IndexByteString", "internal/bytealg.IndexString"], recurses := true, named := ["math/bits.divideError", "math/bits.overflowError", "internal/bytealg.MaxLen", "unicode/utf8.first", "unicode/utf8.acceptRanges"], apart := false, laid := [("unicode/utf8.acceptRanges", laid_unicode_utf8_acceptRanges), ("unicode/utf8.first", laid_unicode_utf8_first)], narrowed := true }
def RatioRowsUptoSaid : Prop := ratioRowsUptoRow.holds Tryd.pinned (OpenSpec.upto ratioRowsSpec)

/-- 'surtitlelaw3.RatioOwn', WHERE WHAT IT READS IS OF BULK AT MOST 1048576: true; the input reads as it did. -/
def ratioOwnUptoRow : OpenClaim := { program := "ytofndakpenpkbaadoor", sum := "d21af9f92176b4c2cfbdef34ad6c58f9596d6cc6fbd5ec00bcc77399c209e338", func := "surtitle/surtitlelaw3.RatioOwn", spec := "ratioOwn", inPlace := ["math/bits.Sub64", "math/bits.Add64", "internal/bytealg.IndexByteString", "internal/bytealg.IndexString"], named := ["math/bits.divideError", "math/bits.overflowError", "internal/bytealg.MaxLen", "unicode/utf8.first", "unicode/utf8.acceptRanges"], apart := false, laid := [("unicode/utf8.acceptRanges", laid_unicode_utf8_acceptRanges), ("unicode/utf8.first", laid_unicode_utf8_first)], narrowed := true }
def RatioOwnUptoSaid : Prop := ratioOwnUptoRow.holds Tryd.pinned (OpenSpec.upto ratioOwnSpec)

/-- 'surtitlelaw3.RatioWholes', WHERE WHAT IT READS IS OF BULK AT MOST 1048576: true; the input reads as it did. -/
def ratioWholesUptoRow : OpenClaim := { program := "ytofndakpenpkbaadoor", sum := "d21af9f92176b4c2cfbdef34ad6c58f9596d6cc6fbd5ec00bcc77399c209e338", func := "surtitle/surtitlelaw3.RatioWholes", spec := "ratioWholes", inPlace := ["math/bits.Sub64", "math/bits.Add64", "internal/bytealg.IndexByteString", "internal/bytealg.IndexString"], recurses := true, named := ["math/bits.divideError", "math/bits.overflowError", "internal/bytealg.MaxLen", "unicode/utf8.first", "unicode/utf8.acceptRanges"], apart := false, laid := [("unicode/utf8.acceptRanges", laid_unicode_utf8_acceptRanges), ("unicode/utf8.first", laid_unicode_utf8_first)], narrowed := true }
def RatioWholesUptoSaid : Prop := ratioWholesUptoRow.holds Tryd.pinned (OpenSpec.upto ratioWholesSpec)

/-- 'surtitlelaw3.RatioCounts', WHERE WHAT IT READS IS OF BULK AT MOST 1048576: true; the input reads as it did. -/
def ratioCountsUptoRow : OpenClaim := { program := "ytofndakpenpkbaadoor", sum := "d21af9f92176b4c2cfbdef34ad6c58f9596d6cc6fbd5ec00bcc77399c209e338", func := "surtitle/surtitlelaw3.RatioCounts", spec := "ratioCounts", inPlace := ["math/bits.Sub64", "math/bits.Add64", "internal/bytealg.IndexByteString", "internal/bytealg.IndexString"], named := ["math/bits.divideError", "math/bits.overflowError", "internal/bytealg.MaxLen", "unicode/utf8.first", "unicode/utf8.acceptRanges"], apart := false, laid := [("unicode/utf8.acceptRanges", laid_unicode_utf8_acceptRanges), ("unicode/utf8.first", laid_unicode_utf8_first)], narrowed := true }
def RatioCountsUptoSaid : Prop := ratioCountsUptoRow.holds Tryd.pinned (OpenSpec.upto ratioCountsSpec)

/-- 'surtitlelaw3.RatioNear', WHERE WHAT IT READS IS OF BULK AT MOST 1048576: true; the input reads as it did. -/
def ratioNearUptoRow : OpenClaim := { program := "ytofndakpenpkbaadoor", sum := "d21af9f92176b4c2cfbdef34ad6c58f9596d6cc6fbd5ec00bcc77399c209e338", func := "surtitle/surtitlelaw3.RatioNear", spec := "ratioNear", inPlace := ["math/bits.Sub64", "math/bits.Add64", "internal/bytealg.IndexByteString", "internal/bytealg.IndexString"], named := ["math/bits.divideError", "math/bits.overflowError", "internal/bytealg.MaxLen", "unicode/utf8.first", "unicode/utf8.acceptRanges"], apart := false, laid := [("unicode/utf8.acceptRanges", laid_unicode_utf8_acceptRanges), ("unicode/utf8.first", laid_unicode_utf8_first)], narrowed := true }
def RatioNearUptoSaid : Prop := ratioNearUptoRow.holds Tryd.pinned (OpenSpec.upto ratioNearSpec)

/-- 'surtitlelaw3.RatioSnaps', WHERE WHAT IT READS IS OF BULK AT MOST 1048576: true; the input reads as it did. -/
def ratioSnapsUptoRow : OpenClaim := { program := "ytofndakpenpkbaadoor", sum := "d21af9f92176b4c2cfbdef34ad6c58f9596d6cc6fbd5ec00bcc77399c209e338", func := "surtitle/surtitlelaw3.RatioSnaps", spec := "ratioSnaps", inPlace := ["math/bits.Sub64", "math/bits.Add64", "internal/bytealg.IndexByteString", "internal/bytealg.IndexString"], recurses := true, named := ["math/bits.divideError", "math/bits.overflowError", "internal/bytealg.MaxLen", "unicode/utf8.first", "unicode/utf8.acceptRanges"], apart := false, laid := [("unicode/utf8.acceptRanges", laid_unicode_utf8_acceptRanges), ("unicode/utf8.first", laid_unicode_utf8_first)], narrowed := true }
def RatioSnapsUptoSaid : Prop := ratioSnapsUptoRow.holds Tryd.pinned (OpenSpec.upto ratioSnapsSpec)

/-- 'surtitlelaw3.RatioNames', WHERE WHAT IT READS IS OF BULK AT MOST 1048576: true; the input reads as it did. -/
def ratioNamesUptoRow : OpenClaim := { program := "ytofndakpenpkbaadoor", sum := "d21af9f92176b4c2cfbdef34ad6c58f9596d6cc6fbd5ec00bcc77399c209e338", func := "surtitle/surtitlelaw3.RatioNames", spec := "ratioNames", inPlace := ["math/bits.Sub64", "math/bits.Add64", "internal/bytealg.IndexByteString", "internal/bytealg.IndexString"], named := ["math/bits.divideError", "math/bits.overflowError", "internal/bytealg.MaxLen", "unicode/utf8.first", "unicode/utf8.acceptRanges"], apart := false, laid := [("unicode/utf8.acceptRanges", laid_unicode_utf8_acceptRanges), ("unicode/utf8.first", laid_unicode_utf8_first)], narrowed := true }
def RatioNamesUptoSaid : Prop := ratioNamesUptoRow.holds Tryd.pinned (OpenSpec.upto ratioNamesSpec)

/-- 'surtitlelaw3.RatioBack', WHERE WHAT IT READS IS OF BULK AT MOST 1048576: true; the input reads as it did. -/
def ratioBackUptoRow : OpenClaim := { program := "ytofndakpenpkbaadoor", sum := "d21af9f92176b4c2cfbdef34ad6c58f9596d6cc6fbd5ec00bcc77399c209e338", func := "surtitle/surtitlelaw3.RatioBack", spec := "ratioBack", inPlace := ["math/bits.Sub64", "math/bits.Add64", "internal/bytealg.IndexByteString", "internal/bytealg.IndexString"], named := ["math/bits.divideError", "math/bits.overflowError", "internal/bytealg.MaxLen", "unicode/utf8.first", "unicode/utf8.acceptRanges", "internal/strconv.uint64pow10", "math/bits.deBruijn32tab", "math/bits.deBruijn64tab"], apart := false, laid := [("math/bits.deBruijn32tab", laid_math_bits_deBruijn32tab), ("math/bits.deBruijn64tab", laid_math_bits_deBruijn64tab), ("internal/strconv.uint64pow10", laid_internal_strconv_uint64pow10), ("unicode/utf8.acceptRanges", laid_unicode_utf8_acceptRanges), ("unicode/utf8.first", laid_unicode_utf8_first)], narrowed := true }
def RatioBackUptoSaid : Prop := ratioBackUptoRow.holds Tryd.pinned (OpenSpec.upto ratioBackSpec)

end Rows
end Go.Proofs.YtofndakpenpkbaaDoor
