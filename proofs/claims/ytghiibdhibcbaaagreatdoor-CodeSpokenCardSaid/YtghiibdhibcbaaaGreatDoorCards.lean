/-
  DERIVED. GIVEN WITH THE SEED: THE CARDS: each row of YtghiibdhibcbaaaGreatDoorRows.lean that lists a variable, with what it lists TIED to the program's text (the seventh form; the later family's looks); each row that meets fmt, with fmt's text TOLD by the authors' own Lean function (tested against real Go, not proved from fmt's source: count such statements apart). THE CARD IS WHAT COUNTS. Prove the row's statement (the work); the ties are given (YtghiibdhibcbaaaGreatDoorTie.lean); close each card by the builder's one call (the guide's Derived/Test/ToyasCard.lean, 'card_holds'). Laid BY PROGRAM, IN A SANDBOX (cutbox-door.mjs). By AI agents, Wed Nov 11 2026. No macro, syntax, notation, axiom, sorry.
-/
import Derived.Test.YtghiibdhibcbaaaGreatDoorRows
import GoSem.ClaimSeven
namespace Go.Proofs.YtghiibdhibcbaaaGreatDoor
namespace Rows

/-- THE TIED CARD OF 'surtitlelaw5.CodeTurns'. -/
def codeTurnsCard : Claim7 := { stood := { row := codeTurnsRow, standIns := [], harness := (true, "3582aaf44779e37843edc73ba1be13a9af3e49f16525aa31e9cd7f6db6d46b18"), looks := false }, kinds := [], alts := [], laidByText := true, laidKinds := [.data, .data, .data], laidTests := true, laidLooks := .later }
def CodeTurnsCardSaid : Prop := Claim7.holds Tryz.pinned (.plain (OpenSpec.ofChange codeTurnsSpec)) codeTurnsCard

/-- THE TIED CARD OF 'surtitlelaw5.CodeSpoken'. -/
def codeSpokenCard : Claim7 := { stood := { row := codeSpokenRow, standIns := [], harness := (true, "3582aaf44779e37843edc73ba1be13a9af3e49f16525aa31e9cd7f6db6d46b18"), looks := false }, kinds := [], alts := [], laidByText := true, laidKinds := [.data, .data, .data], laidTests := true, laidLooks := .later }
def CodeSpokenCardSaid : Prop := Claim7.holds Tryz.pinned (.plain (OpenSpec.ofChange codeSpokenSpec)) codeSpokenCard

/-- THE SECOND FORM's CARD OF 'surtitlelaw5.CodeTurns'. -/
def codeTurnsUptoCard : Claim7 := { stood := { row := codeTurnsUptoRow, standIns := [], harness := (true, "3582aaf44779e37843edc73ba1be13a9af3e49f16525aa31e9cd7f6db6d46b18"), looks := false }, kinds := [], alts := [], laidByText := true, laidKinds := [.data, .data, .data], laidTests := true, laidLooks := .later }
def CodeTurnsUptoCardSaid : Prop := Claim7.holds Tryz.pinned (.plain (OpenSpec.upto codeTurnsSpec)) codeTurnsUptoCard

/-- THE SECOND FORM's CARD OF 'surtitlelaw5.CodeSpoken'. -/
def codeSpokenUptoCard : Claim7 := { stood := { row := codeSpokenUptoRow, standIns := [], harness := (true, "3582aaf44779e37843edc73ba1be13a9af3e49f16525aa31e9cd7f6db6d46b18"), looks := false }, kinds := [], alts := [], laidByText := true, laidKinds := [.data, .data, .data], laidTests := true, laidLooks := .later }
def CodeSpokenUptoCardSaid : Prop := Claim7.holds Tryz.pinned (.plain (OpenSpec.upto codeSpokenSpec)) codeSpokenUptoCard
end Rows
end Go.Proofs.YtghiibdhibcbaaaGreatDoor
