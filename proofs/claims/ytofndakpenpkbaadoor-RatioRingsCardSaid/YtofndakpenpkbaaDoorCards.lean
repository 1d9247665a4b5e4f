/-
  DERIVED. GIVEN WITH THE SEED: THE CARDS: each row of YtofndakpenpkbaaDoorRows.lean that lists a variable, with what it lists TIED to the program's text (the seventh form; the later family's looks); each row that meets fmt, with fmt's text TOLD by the authors' own Lean function (tested against real Go, not proved from fmt's source: count such statements apart). THE CARD IS WHAT COUNTS. Prove the row's statement (the work); the ties are given (YtofndakpenpkbaaDoorTie.lean); close each card by the builder's one call (the guide's Derived/Test/ToyasCard.lean, 'card_holds'). Laid BY PROGRAM, IN A SANDBOX (cutbox-door.mjs). By AI agents, Wed Nov 11 2026. No macro, syntax, notation, axiom, sorry.
-/
import Derived.Test.YtofndakpenpkbaaDoorRows
import GoSem.ClaimSeven
namespace Go.Proofs.YtofndakpenpkbaaDoor
namespace Rows

/-- THE TIED CARD OF 'surtitlelaw3.RatioNews'. -/
def ratioNewsCard : Claim7 := { stood := { row := ratioNewsRow, standIns := [], harness := (true, "475f8e8e61da40e0f0a39242ad481f56d78b2af07f0085bcdba7015d5f12b25a"), looks := false }, kinds := [], alts := [], laidByText := true, laidKinds := [.data, .pinned], laidTests := true, laidLooks := .later }
def RatioNewsCardSaid : Prop := Claim7.holds Tryd.pinned (.plain (OpenSpec.ofChange ratioNewsSpec)) ratioNewsCard

/-- THE TIED CARD OF 'surtitlelaw3.RatioSums'. -/
def ratioSumsCard : Claim7 := { stood := { row := ratioSumsRow, standIns := [], harness := (true, "475f8e8e61da40e0f0a39242ad481f56d78b2af07f0085bcdba7015d5f12b25a"), looks := false }, kinds := [], alts := [], laidByText := true, laidKinds := [.data, .pinned], laidTests := true, laidLooks := .later }
def RatioSumsCardSaid : Prop := Claim7.holds Tryd.pinned (.plain (OpenSpec.ofChange ratioSumsSpec)) ratioSumsCard

/-- THE TIED CARD OF 'surtitlelaw3.RatioProducts'. -/
def ratioProductsCard : Claim7 := { stood := { row := ratioProductsRow, standIns := [], harness := (true, "475f8e8e61da40e0f0a39242ad481f56d78b2af07f0085bcdba7015d5f12b25a"), looks := false }, kinds := [], alts := [], laidByText := true, laidKinds := [.data, .pinned], laidTests := true, laidLooks := .later }
def RatioProductsCardSaid : Prop := Claim7.holds Tryd.pinned (.plain (OpenSpec.ofChange ratioProductsSpec)) ratioProductsCard

/-- THE TIED CARD OF 'surtitlelaw3.RatioOrders'. -/
def ratioOrdersCard : Claim7 := { stood := { row := ratioOrdersRow, standIns := [], harness := (true, "475f8e8e61da40e0f0a39242ad481f56d78b2af07f0085bcdba7015d5f12b25a"), looks := false }, kinds := [], alts := [], laidByText := true, laidKinds := [.data, .pinned], laidTests := true, laidLooks := .later }
def RatioOrdersCardSaid : Prop := Claim7.holds Tryd.pinned (.plain (OpenSpec.ofChange ratioOrdersSpec)) ratioOrdersCard

/-- THE TIED CARD OF 'surtitlelaw3.RatioRings'. -/
def ratioRingsCard : Claim7 := { stood := { row := ratioRingsRow, standIns := [], harness := (true, "475f8e8e61da40e0f0a39242ad481f56d78b2af07f0085bcdba7015d5f12b25a"), looks := false }, kinds := [], alts := [], laidByText := true, laidKinds := [.data, .pinned], laidTests := true, laidLooks := .later }
def RatioRingsCardSaid : Prop := Claim7.holds Tryd.pinned (.plain (OpenSpec.ofChange ratioRingsSpec)) ratioRingsCard

/-- THE TIED CARD OF 'surtitlelaw3.RatioRows'. -/
def ratioRowsCard : Claim7 := { stood := { row := ratioRowsRow, standIns := [], harness := (true, "475f8e8e61da40e0f0a39242ad481f56d78b2af07f0085bcdba7015d5f12b25a"), looks := false }, kinds := [], alts := [], laidByText := true, laidKinds := [.data, .pinned], laidTests := true, laidLooks := .later }
def RatioRowsCardSaid : Prop := Claim7.holds Tryd.pinned (.plain (OpenSpec.ofChange ratioRowsSpec)) ratioRowsCard

/-- THE TIED CARD OF 'surtitlelaw3.RatioOwn'. -/
def ratioOwnCard : Claim7 := { stood := { row := ratioOwnRow, standIns := [], harness := (true, "475f8e8e61da40e0f0a39242ad481f56d78b2af07f0085bcdba7015d5f12b25a"), looks := false }, kinds := [], alts := [], laidByText := true, laidKinds := [.data, .pinned], laidTests := true, laidLooks := .later }
def RatioOwnCardSaid : Prop := Claim7.holds Tryd.pinned (.plain (OpenSpec.ofChange ratioOwnSpec)) ratioOwnCard

/-- THE TIED CARD OF 'surtitlelaw3.RatioWholes'. -/
def ratioWholesCard : Claim7 := { stood := { row := ratioWholesRow, standIns := [], harness := (true, "475f8e8e61da40e0f0a39242ad481f56d78b2af07f0085bcdba7015d5f12b25a"), looks := false }, kinds := [], alts := [], laidByText := true, laidKinds := [.data, .pinned], laidTests := true, laidLooks := .later }
def RatioWholesCardSaid : Prop := Claim7.holds Tryd.pinned (.plain (OpenSpec.ofChange ratioWholesSpec)) ratioWholesCard

/-- THE TIED CARD OF 'surtitlelaw3.RatioCounts'. -/
def ratioCountsCard : Claim7 := { stood := { row := ratioCountsRow, standIns := [], harness := (true, "475f8e8e61da40e0f0a39242ad481f56d78b2af07f0085bcdba7015d5f12b25a"), looks := false }, kinds := [], alts := [], laidByText := true, laidKinds := [.data, .pinned], laidTests := true, laidLooks := .later }
def RatioCountsCardSaid : Prop := Claim7.holds Tryd.pinned (.plain (OpenSpec.ofChange ratioCountsSpec)) ratioCountsCard

/-- THE TIED CARD OF 'surtitlelaw3.RatioNear'. -/
def ratioNearCard : Claim7 := { stood := { row := ratioNearRow, standIns := [], harness := (true, "475f8e8e61da40e0f0a39242ad481f56d78b2af07f0085bcdba7015d5f12b25a"), looks := false }, kinds := [], alts := [], laidByText := true, laidKinds := [.data, .pinned], laidTests := true, laidLooks := .later }
def RatioNearCardSaid : Prop := Claim7.holds Tryd.pinned (.plain (OpenSpec.ofChange ratioNearSpec)) ratioNearCard

/-- THE TIED CARD OF 'surtitlelaw3.RatioSnaps'. -/
def ratioSnapsCard : Claim7 := { stood := { row := ratioSnapsRow, standIns := [], harness := (true, "475f8e8e61da40e0f0a39242ad481f56d78b2af07f0085bcdba7015d5f12b25a"), looks := false }, kinds := [], alts := [], laidByText := true, laidKinds := [.data, .pinned], laidTests := true, laidLooks := .later }
def RatioSnapsCardSaid : Prop := Claim7.holds Tryd.pinned (.plain (OpenSpec.ofChange ratioSnapsSpec)) ratioSnapsCard

/-- THE TIED CARD OF 'surtitlelaw3.RatioNames'. -/
def ratioNamesCard : Claim7 := { stood := { row := ratioNamesRow, standIns := [], harness := (true, "475f8e8e61da40e0f0a39242ad481f56d78b2af07f0085bcdba7015d5f12b25a"), looks := false }, kinds := [], alts := [], laidByText := true, laidKinds := [.data, .pinned], laidTests := true, laidLooks := .later }
def RatioNamesCardSaid : Prop := Claim7.holds Tryd.pinned (.plain (OpenSpec.ofChange ratioNamesSpec)) ratioNamesCard

/-- THE TIED CARD OF 'surtitlelaw3.RatioBack'. -/
def ratioBackCard : Claim7 := { stood := { row := ratioBackRow, standIns := [], harness := (true, "475f8e8e61da40e0f0a39242ad481f56d78b2af07f0085bcdba7015d5f12b25a"), looks := false }, kinds := [], alts := [], laidByText := true, laidKinds := [.data, .data, .data, .data, .pinned], laidTests := true, laidLooks := .later }
def RatioBackCardSaid : Prop := Claim7.holds Tryd.pinned (.plain (OpenSpec.ofChange ratioBackSpec)) ratioBackCard

/-- THE SECOND FORM's CARD OF 'surtitlelaw3.RatioNews'. -/
def ratioNewsUptoCard : Claim7 := { stood := { row := ratioNewsUptoRow, standIns := [], harness := (true, "475f8e8e61da40e0f0a39242ad481f56d78b2af07f0085bcdba7015d5f12b25a"), looks := false }, kinds := [], alts := [], laidByText := true, laidKinds := [.data, .pinned], laidTests := true, laidLooks := .later }
def RatioNewsUptoCardSaid : Prop := Claim7.holds Tryd.pinned (.plain (OpenSpec.upto ratioNewsSpec)) ratioNewsUptoCard

/-- THE SECOND FORM's CARD OF 'surtitlelaw3.RatioSums'. -/
def ratioSumsUptoCard : Claim7 := { stood := { row := ratioSumsUptoRow, standIns := [], harness := (true, "475f8e8e61da40e0f0a39242ad481f56d78b2af07f0085bcdba7015d5f12b25a"), looks := false }, kinds := [], alts := [], laidByText := true, laidKinds := [.data, .pinned], laidTests := true, laidLooks := .later }
def RatioSumsUptoCardSaid : Prop := Claim7.holds Tryd.pinned (.plain (OpenSpec.upto ratioSumsSpec)) ratioSumsUptoCard

/-- THE SECOND FORM's CARD OF 'surtitlelaw3.RatioProducts'. -/
def ratioProductsUptoCard : Claim7 := { stood := { row := ratioProductsUptoRow, standIns := [], harness := (true, "475f8e8e61da40e0f0a39242ad481f56d78b2af07f0085bcdba7015d5f12b25a"), looks := false }, kinds := [], alts := [], laidByText := true, laidKinds := [.data, .pinned], laidTests := true, laidLooks := .later }
def RatioProductsUptoCardSaid : Prop := Claim7.holds Tryd.pinned (.plain (OpenSpec.upto ratioProductsSpec)) ratioProductsUptoCard

/-- THE SECOND FORM's CARD OF 'surtitlelaw3.RatioOrders'. -/
def ratioOrdersUptoCard : Claim7 := { stood := { row := ratioOrdersUptoRow, standIns := [], harness := (true, "475f8e8e61da40e0f0a39242ad481f56d78b2af07f0085bcdba7015d5f12b25a"), looks := false }, kinds := [], alts := [], laidByText := true, laidKinds := [.data, .pinned], laidTests := true, laidLooks := .later }
def RatioOrdersUptoCardSaid : Prop := Claim7.holds Tryd.pinned (.plain (OpenSpec.upto ratioOrdersSpec)) ratioOrdersUptoCard

/-- THE SECOND FORM's CARD OF 'surtitlelaw3.RatioRings'. -/
def ratioRingsUptoCard : Claim7 := { stood := { row := ratioRingsUptoRow, standIns := [], harness := (true, "475f8e8e61da40e0f0a39242ad481f56d78b2af07f0085bcdba7015d5f12b25a"), looks := false }, kinds := [], alts := [], laidByText := true, laidKinds := [.data, .pinned], laidTests := true, laidLooks := .later }
def RatioRingsUptoCardSaid : Prop := Claim7.holds Tryd.pinned (.plain (OpenSpec.upto ratioRingsSpec)) ratioRingsUptoCard

/-- THE SECOND FORM's CARD OF 'surtitlelaw3.RatioRows'. -/
def ratioRowsUptoCard : Claim7 := { stood := { row := ratioRowsUptoRow, standIns := [], harness := (true, "475f8e8e61da40e0f0a39242ad481f56d78b2af07f0085bcdba7015d5f12b25a"), looks := false }, kinds := [], alts := [], laidByText := true, laidKinds := [.data, .pinned], laidTests := true, laidLooks := .later }
def RatioRowsUptoCardSaid : Prop := Claim7.holds Tryd.pinned (.plain (OpenSpec.upto ratioRowsSpec)) ratioRowsUptoCard

/-- THE SECOND FORM's CARD OF 'surtitlelaw3.RatioOwn'. -/
def ratioOwnUptoCard : Claim7 := { stood := { row := ratioOwnUptoRow, standIns := [], harness := (true, "475f8e8e61da40e0f0a39242ad481f56d78b2af07f0085bcdba7015d5f12b25a"), looks := false }, kinds := [], alts := [], laidByText := true, laidKinds := [.data, .pinned], laidTests := true, laidLooks := .later }
def RatioOwnUptoCardSaid : Prop := Claim7.holds Tryd.pinned (.plain (OpenSpec.upto ratioOwnSpec)) ratioOwnUptoCard

/-- THE SECOND FORM's CARD OF 'surtitlelaw3.RatioWholes'. -/
def ratioWholesUptoCard : Claim7 := { stood := { row := ratioWholesUptoRow, standIns := [], harness := (true, "475f8e8e61da40e0f0a39242ad481f56d78b2af07f0085bcdba7015d5f12b25a"), looks := false }, kinds := [], alts := [], laidByText := true, laidKinds := [.data, .pinned], laidTests := true, laidLooks := .later }
def RatioWholesUptoCardSaid : Prop := Claim7.holds Tryd.pinned (.plain (OpenSpec.upto ratioWholesSpec)) ratioWholesUptoCard

/-- THE SECOND FORM's CARD OF 'surtitlelaw3.RatioCounts'. -/
def ratioCountsUptoCard : Claim7 := { stood := { row := ratioCountsUptoRow, standIns := [], harness := (true, "475f8e8e61da40e0f0a39242ad481f56d78b2af07f0085bcdba7015d5f12b25a"), looks := false }, kinds := [], alts := [], laidByText := true, laidKinds := [.data, .pinned], laidTests := true, laidLooks := .later }
def RatioCountsUptoCardSaid : Prop := Claim7.holds Tryd.pinned (.plain (OpenSpec.upto ratioCountsSpec)) ratioCountsUptoCard

/-- THE SECOND FORM's CARD OF 'surtitlelaw3.RatioNear'. -/
def ratioNearUptoCard : Claim7 := { stood := { row := ratioNearUptoRow, standIns := [], harness := (true, "475f8e8e61da40e0f0a39242ad481f56d78b2af07f0085bcdba7015d5f12b25a"), looks := false }, kinds := [], alts := [], laidByText := true, laidKinds := [.data, .pinned], laidTests := true, laidLooks := .later }
def RatioNearUptoCardSaid : Prop := Claim7.holds Tryd.pinned (.plain (OpenSpec.upto ratioNearSpec)) ratioNearUptoCard

/-- THE SECOND FORM's CARD OF 'surtitlelaw3.RatioSnaps'. -/
def ratioSnapsUptoCard : Claim7 := { stood := { row := ratioSnapsUptoRow, standIns := [], harness := (true, "475f8e8e61da40e0f0a39242ad481f56d78b2af07f0085bcdba7015d5f12b25a"), looks := false }, kinds := [], alts := [], laidByText := true, laidKinds := [.data, .pinned], laidTests := true, laidLooks := .later }
def RatioSnapsUptoCardSaid : Prop := Claim7.holds Tryd.pinned (.plain (OpenSpec.upto ratioSnapsSpec)) ratioSnapsUptoCard

/-- THE SECOND FORM's CARD OF 'surtitlelaw3.RatioNames'. -/
def ratioNamesUptoCard : Claim7 := { stood := { row := ratioNamesUptoRow, standIns := [], harness := (true, "475f8e8e61da40e0f0a39242ad481f56d78b2af07f0085bcdba7015d5f12b25a"), looks := false }, kinds := [], alts := [], laidByText := true, laidKinds := [.data, .pinned], laidTests := true, laidLooks := .later }
def RatioNamesUptoCardSaid : Prop := Claim7.holds Tryd.pinned (.plain (OpenSpec.upto ratioNamesSpec)) ratioNamesUptoCard

/-- THE SECOND FORM's CARD OF 'surtitlelaw3.RatioBack'. -/
def ratioBackUptoCard : Claim7 := { stood := { row := ratioBackUptoRow, standIns := [], harness := (true, "475f8e8e61da40e0f0a39242ad481f56d78b2af07f0085bcdba7015d5f12b25a"), looks := false }, kinds := [], alts := [], laidByText := true, laidKinds := [.data, .data, .data, .data, .pinned], laidTests := true, laidLooks := .later }
def RatioBackUptoCardSaid : Prop := Claim7.holds Tryd.pinned (.plain (OpenSpec.upto ratioBackSpec)) ratioBackUptoCard
end Rows
end Go.Proofs.YtofndakpenpkbaaDoor
