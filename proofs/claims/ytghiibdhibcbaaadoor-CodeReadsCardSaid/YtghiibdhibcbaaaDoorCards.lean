/-
  DERIVED. GIVEN WITH THE SEED: THE CARDS: each row of YtghiibdhibcbaaaDoorRows.lean that lists a variable, with what it lists TIED to the program's text (the seventh form; the later family's looks); each row that meets fmt, with fmt's text TOLD by the authors' own Lean function (tested against real Go, not proved from fmt's source: count such statements apart). THE CARD IS WHAT COUNTS. Prove the row's statement (the work); the ties are given (YtghiibdhibcbaaaDoorTie.lean); close each card by the builder's one call (the guide's Derived/Test/ToyasCard.lean, 'card_holds'). Laid BY PROGRAM, IN A SANDBOX (cutbox-door.mjs). By AI agents, Wed Nov 11 2026. No macro, syntax, notation, axiom, sorry.
-/
import Derived.Test.YtghiibdhibcbaaaDoorRows
import GoSem.ClaimSeven
namespace Go.Proofs.YtghiibdhibcbaaaDoor
namespace Rows

/-- THE TIED CARD OF 'surtitlelaw5.CodeNames'. -/
def codeNamesCard : Claim7 := { stood := { row := codeNamesRow, standIns := [], harness := (true, "b0bbf582680fce4255235416079412cb4ab15c058c86ce858536e83cc2c52805"), looks := false }, kinds := [], alts := [], laidByText := true, laidKinds := [.data, .data, .data], laidTests := true, laidLooks := .later }
def CodeNamesCardSaid : Prop := Claim7.holds Tryd.pinned (.plain (OpenSpec.ofChange codeNamesSpec)) codeNamesCard

/-- THE TIED CARD OF 'surtitlelaw5.CodeTimes'. -/
def codeTimesCard : Claim7 := { stood := { row := codeTimesRow, standIns := [], harness := (true, "b0bbf582680fce4255235416079412cb4ab15c058c86ce858536e83cc2c52805"), looks := false }, kinds := [], alts := [], laidByText := true, laidKinds := [.data, .data, .data], laidTests := true, laidLooks := .later }
def CodeTimesCardSaid : Prop := Claim7.holds Tryd.pinned (.plain (OpenSpec.ofChange codeTimesSpec)) codeTimesCard

/-- THE TIED CARD OF 'surtitlelaw5.CodeNumbers'. -/
def codeNumbersCard : Claim7 := { stood := { row := codeNumbersRow, standIns := [], harness := (true, "b0bbf582680fce4255235416079412cb4ab15c058c86ce858536e83cc2c52805"), looks := false }, kinds := [], alts := [], laidByText := true, laidKinds := [.data, .data, .data], laidTests := true, laidLooks := .later }
def CodeNumbersCardSaid : Prop := Claim7.holds Tryd.pinned (.plain (OpenSpec.ofChange codeNumbersSpec)) codeNumbersCard

/-- THE TIED CARD OF 'surtitlelaw5.CodeClocks'. -/
def codeClocksCard : Claim7 := { stood := { row := codeClocksRow, standIns := [], harness := (true, "b0bbf582680fce4255235416079412cb4ab15c058c86ce858536e83cc2c52805"), looks := false }, kinds := [], alts := [], laidByText := true, laidKinds := [.data, .data, .data], laidTests := true, laidLooks := .later }
def CodeClocksCardSaid : Prop := Claim7.holds Tryd.pinned (.plain (OpenSpec.ofChange codeClocksSpec)) codeClocksCard

/-- THE TIED CARD OF 'surtitlelaw5.CodeRise'. -/
def codeRiseCard : Claim7 := { stood := { row := codeRiseRow, standIns := [], harness := (true, "b0bbf582680fce4255235416079412cb4ab15c058c86ce858536e83cc2c52805"), looks := false }, kinds := [], alts := [], laidByText := true, laidKinds := [.data, .data, .data], laidTests := true, laidLooks := .later }
def CodeRiseCardSaid : Prop := Claim7.holds Tryd.pinned (.plain (OpenSpec.ofChange codeRiseSpec)) codeRiseCard

/-- THE TIED CARD OF 'surtitlelaw5.CodeMinute'. -/
def codeMinuteCard : Claim7 := { stood := { row := codeMinuteRow, standIns := [], harness := (true, "b0bbf582680fce4255235416079412cb4ab15c058c86ce858536e83cc2c52805"), looks := false }, kinds := [], alts := [], laidByText := true, laidKinds := [.data, .data, .data], laidTests := true, laidLooks := .later }
def CodeMinuteCardSaid : Prop := Claim7.holds Tryd.pinned (.plain (OpenSpec.ofChange codeMinuteSpec)) codeMinuteCard

/-- THE TIED CARD OF 'surtitlelaw5.CodeTens'. -/
def codeTensCard : Claim7 := { stood := { row := codeTensRow, standIns := [], harness := (true, "b0bbf582680fce4255235416079412cb4ab15c058c86ce858536e83cc2c52805"), looks := false }, kinds := [], alts := [], laidByText := true, laidKinds := [.data, .data, .data], laidTests := true, laidLooks := .later }
def CodeTensCardSaid : Prop := Claim7.holds Tryd.pinned (.plain (OpenSpec.ofChange codeTensSpec)) codeTensCard

/-- THE TIED CARD OF 'surtitlelaw5.CodeFrames'. -/
def codeFramesCard : Claim7 := { stood := { row := codeFramesRow, standIns := [], harness := (true, "b0bbf582680fce4255235416079412cb4ab15c058c86ce858536e83cc2c52805"), looks := false }, kinds := [], alts := [], laidByText := true, laidKinds := [.data, .data, .data], laidTests := true, laidLooks := .later }
def CodeFramesCardSaid : Prop := Claim7.holds Tryd.pinned (.plain (OpenSpec.ofChange codeFramesSpec)) codeFramesCard

/-- THE TIED CARD OF 'surtitlelaw5.CodeBack'. -/
def codeBackCard : Claim7 := { stood := { row := codeBackRow, standIns := [], harness := (true, "b0bbf582680fce4255235416079412cb4ab15c058c86ce858536e83cc2c52805"), looks := false }, kinds := [], alts := [], laidByText := true, laidKinds := [.data, .data, .data], laidTests := true, laidLooks := .later }
def CodeBackCardSaid : Prop := Claim7.holds Tryd.pinned (.plain (OpenSpec.ofChange codeBackSpec)) codeBackCard

/-- THE TIED CARD OF 'surtitlelaw5.CodeNear'. -/
def codeNearCard : Claim7 := { stood := { row := codeNearRow, standIns := [], harness := (true, "b0bbf582680fce4255235416079412cb4ab15c058c86ce858536e83cc2c52805"), looks := false }, kinds := [], alts := [], laidByText := true, laidKinds := [.data, .data, .data], laidTests := true, laidLooks := .later }
def CodeNearCardSaid : Prop := Claim7.holds Tryd.pinned (.plain (OpenSpec.ofChange codeNearSpec)) codeNearCard

/-- THE TIED CARD OF 'surtitlelaw5.CodeBeyond'. -/
def codeBeyondCard : Claim7 := { stood := { row := codeBeyondRow, standIns := [], harness := (true, "b0bbf582680fce4255235416079412cb4ab15c058c86ce858536e83cc2c52805"), looks := false }, kinds := [], alts := [], laidByText := true, laidKinds := [.data, .data, .data], laidTests := true, laidLooks := .later }
def CodeBeyondCardSaid : Prop := Claim7.holds Tryd.pinned (.plain (OpenSpec.ofChange codeBeyondSpec)) codeBeyondCard

/-- THE TIED CARD OF 'surtitlelaw5.CodeChecks'. -/
def codeChecksCard : Claim7 := { stood := { row := codeChecksRow, standIns := [], harness := (true, "b0bbf582680fce4255235416079412cb4ab15c058c86ce858536e83cc2c52805"), looks := false }, kinds := [], alts := [], laidByText := true, laidKinds := [.data, .data, .data], laidTests := true, laidLooks := .later }
def CodeChecksCardSaid : Prop := Claim7.holds Tryd.pinned (.plain (OpenSpec.ofChange codeChecksSpec)) codeChecksCard

/-- THE TIED CARD OF 'surtitlelaw5.CodeReads'. -/
def codeReadsCard : Claim7 := { stood := { row := codeReadsRow, standIns := [], harness := (true, "b0bbf582680fce4255235416079412cb4ab15c058c86ce858536e83cc2c52805"), looks := false }, kinds := [], alts := [], laidByText := true, laidKinds := [.data, .data, .data], laidTests := true, laidLooks := .later }
def CodeReadsCardSaid : Prop := Claim7.holds Tryd.pinned (.plain (OpenSpec.ofChange codeReadsSpec)) codeReadsCard

/-- THE SECOND FORM's CARD OF 'surtitlelaw5.CodeNames'. -/
def codeNamesUptoCard : Claim7 := { stood := { row := codeNamesUptoRow, standIns := [], harness := (true, "b0bbf582680fce4255235416079412cb4ab15c058c86ce858536e83cc2c52805"), looks := false }, kinds := [], alts := [], laidByText := true, laidKinds := [.data, .data, .data], laidTests := true, laidLooks := .later }
def CodeNamesUptoCardSaid : Prop := Claim7.holds Tryd.pinned (.plain (OpenSpec.upto codeNamesSpec)) codeNamesUptoCard

/-- THE SECOND FORM's CARD OF 'surtitlelaw5.CodeTimes'. -/
def codeTimesUptoCard : Claim7 := { stood := { row := codeTimesUptoRow, standIns := [], harness := (true, "b0bbf582680fce4255235416079412cb4ab15c058c86ce858536e83cc2c52805"), looks := false }, kinds := [], alts := [], laidByText := true, laidKinds := [.data, .data, .data], laidTests := true, laidLooks := .later }
def CodeTimesUptoCardSaid : Prop := Claim7.holds Tryd.pinned (.plain (OpenSpec.upto codeTimesSpec)) codeTimesUptoCard

/-- THE SECOND FORM's CARD OF 'surtitlelaw5.CodeNumbers'. -/
def codeNumbersUptoCard : Claim7 := { stood := { row := codeNumbersUptoRow, standIns := [], harness := (true, "b0bbf582680fce4255235416079412cb4ab15c058c86ce858536e83cc2c52805"), looks := false }, kinds := [], alts := [], laidByText := true, laidKinds := [.data, .data, .data], laidTests := true, laidLooks := .later }
def CodeNumbersUptoCardSaid : Prop := Claim7.holds Tryd.pinned (.plain (OpenSpec.upto codeNumbersSpec)) codeNumbersUptoCard

/-- THE SECOND FORM's CARD OF 'surtitlelaw5.CodeClocks'. -/
def codeClocksUptoCard : Claim7 := { stood := { row := codeClocksUptoRow, standIns := [], harness := (true, "b0bbf582680fce4255235416079412cb4ab15c058c86ce858536e83cc2c52805"), looks := false }, kinds := [], alts := [], laidByText := true, laidKinds := [.data, .data, .data], laidTests := true, laidLooks := .later }
def CodeClocksUptoCardSaid : Prop := Claim7.holds Tryd.pinned (.plain (OpenSpec.upto codeClocksSpec)) codeClocksUptoCard

/-- THE SECOND FORM's CARD OF 'surtitlelaw5.CodeRise'. -/
def codeRiseUptoCard : Claim7 := { stood := { row := codeRiseUptoRow, standIns := [], harness := (true, "b0bbf582680fce4255235416079412cb4ab15c058c86ce858536e83cc2c52805"), looks := false }, kinds := [], alts := [], laidByText := true, laidKinds := [.data, .data, .data], laidTests := true, laidLooks := .later }
def CodeRiseUptoCardSaid : Prop := Claim7.holds Tryd.pinned (.plain (OpenSpec.upto codeRiseSpec)) codeRiseUptoCard

/-- THE SECOND FORM's CARD OF 'surtitlelaw5.CodeMinute'. -/
def codeMinuteUptoCard : Claim7 := { stood := { row := codeMinuteUptoRow, standIns := [], harness := (true, "b0bbf582680fce4255235416079412cb4ab15c058c86ce858536e83cc2c52805"), looks := false }, kinds := [], alts := [], laidByText := true, laidKinds := [.data, .data, .data], laidTests := true, laidLooks := .later }
def CodeMinuteUptoCardSaid : Prop := Claim7.holds Tryd.pinned (.plain (OpenSpec.upto codeMinuteSpec)) codeMinuteUptoCard

/-- THE SECOND FORM's CARD OF 'surtitlelaw5.CodeTens'. -/
def codeTensUptoCard : Claim7 := { stood := { row := codeTensUptoRow, standIns := [], harness := (true, "b0bbf582680fce4255235416079412cb4ab15c058c86ce858536e83cc2c52805"), looks := false }, kinds := [], alts := [], laidByText := true, laidKinds := [.data, .data, .data], laidTests := true, laidLooks := .later }
def CodeTensUptoCardSaid : Prop := Claim7.holds Tryd.pinned (.plain (OpenSpec.upto codeTensSpec)) codeTensUptoCard

/-- THE SECOND FORM's CARD OF 'surtitlelaw5.CodeFrames'. -/
def codeFramesUptoCard : Claim7 := { stood := { row := codeFramesUptoRow, standIns := [], harness := (true, "b0bbf582680fce4255235416079412cb4ab15c058c86ce858536e83cc2c52805"), looks := false }, kinds := [], alts := [], laidByText := true, laidKinds := [.data, .data, .data], laidTests := true, laidLooks := .later }
def CodeFramesUptoCardSaid : Prop := Claim7.holds Tryd.pinned (.plain (OpenSpec.upto codeFramesSpec)) codeFramesUptoCard

/-- THE SECOND FORM's CARD OF 'surtitlelaw5.CodeBack'. -/
def codeBackUptoCard : Claim7 := { stood := { row := codeBackUptoRow, standIns := [], harness := (true, "b0bbf582680fce4255235416079412cb4ab15c058c86ce858536e83cc2c52805"), looks := false }, kinds := [], alts := [], laidByText := true, laidKinds := [.data, .data, .data], laidTests := true, laidLooks := .later }
def CodeBackUptoCardSaid : Prop := Claim7.holds Tryd.pinned (.plain (OpenSpec.upto codeBackSpec)) codeBackUptoCard

/-- THE SECOND FORM's CARD OF 'surtitlelaw5.CodeNear'. -/
def codeNearUptoCard : Claim7 := { stood := { row := codeNearUptoRow, standIns := [], harness := (true, "b0bbf582680fce4255235416079412cb4ab15c058c86ce858536e83cc2c52805"), looks := false }, kinds := [], alts := [], laidByText := true, laidKinds := [.data, .data, .data], laidTests := true, laidLooks := .later }
def CodeNearUptoCardSaid : Prop := Claim7.holds Tryd.pinned (.plain (OpenSpec.upto codeNearSpec)) codeNearUptoCard

/-- THE SECOND FORM's CARD OF 'surtitlelaw5.CodeBeyond'. -/
def codeBeyondUptoCard : Claim7 := { stood := { row := codeBeyondUptoRow, standIns := [], harness := (true, "b0bbf582680fce4255235416079412cb4ab15c058c86ce858536e83cc2c52805"), looks := false }, kinds := [], alts := [], laidByText := true, laidKinds := [.data, .data, .data], laidTests := true, laidLooks := .later }
def CodeBeyondUptoCardSaid : Prop := Claim7.holds Tryd.pinned (.plain (OpenSpec.upto codeBeyondSpec)) codeBeyondUptoCard

/-- THE SECOND FORM's CARD OF 'surtitlelaw5.CodeChecks'. -/
def codeChecksUptoCard : Claim7 := { stood := { row := codeChecksUptoRow, standIns := [], harness := (true, "b0bbf582680fce4255235416079412cb4ab15c058c86ce858536e83cc2c52805"), looks := false }, kinds := [], alts := [], laidByText := true, laidKinds := [.data, .data, .data], laidTests := true, laidLooks := .later }
def CodeChecksUptoCardSaid : Prop := Claim7.holds Tryd.pinned (.plain (OpenSpec.upto codeChecksSpec)) codeChecksUptoCard

/-- THE SECOND FORM's CARD OF 'surtitlelaw5.CodeReads'. -/
def codeReadsUptoCard : Claim7 := { stood := { row := codeReadsUptoRow, standIns := [], harness := (true, "b0bbf582680fce4255235416079412cb4ab15c058c86ce858536e83cc2c52805"), looks := false }, kinds := [], alts := [], laidByText := true, laidKinds := [.data, .data, .data], laidTests := true, laidLooks := .later }
def CodeReadsUptoCardSaid : Prop := Claim7.holds Tryd.pinned (.plain (OpenSpec.upto codeReadsSpec)) codeReadsUptoCard
end Rows
end Go.Proofs.YtghiibdhibcbaaaDoor
