/-
  DERIVED. GIVEN WITH THE SEED: THE CARDS: each row of YtoacojkmclngmaaGreatDoorRows.lean that lists a variable, with what it lists TIED to the program's text (the seventh form; the later family's looks); each row that meets fmt, with fmt's text TOLD by the authors' own Lean function (tested against real Go, not proved from fmt's source: count such statements apart). THE CARD IS WHAT COUNTS. Prove the row's statement (the work); the ties are given (YtoacojkmclngmaaGreatDoorTie.lean); close each card by the builder's one call (the guide's Derived/Test/ToyasCard.lean, 'card_holds'). Laid BY PROGRAM, IN A SANDBOX (cutbox-door.mjs). By AI agents, Wed Nov 11 2026. No macro, syntax, notation, axiom, sorry.
-/
import Derived.Test.YtoacojkmclngmaaGreatDoorRows
import GoSem.ClaimSeven
namespace Go.Proofs.YtoacojkmclngmaaGreatDoor
namespace Rows

/-- THE TIED CARD OF 'cribblelaw18.ScanTokens'. -/
def scanTokensCard : Claim7 := { stood := { row := scanTokensRow, standIns := [], harness := (true, "68ff07a6ce357ca7c0adb0ddcf691e786e67c7a11487be96aa11ddf641928576"), looks := false }, kinds := [], alts := [], laidByText := true, laidKinds := [.data, .data, .pinned], laidTests := true, laidLooks := .later }
def ScanTokensCardSaid : Prop := Claim7.holds Tryz.pinned (.plain (OpenSpec.ofChange scanTokensSpec)) scanTokensCard

/-- THE TIED CARD OF 'cribblelaw18.ScanBytes'. -/
def scanBytesCard : Claim7 := { stood := { row := scanBytesRow, standIns := [], harness := (true, "68ff07a6ce357ca7c0adb0ddcf691e786e67c7a11487be96aa11ddf641928576"), looks := false }, kinds := [], alts := [], laidByText := true, laidKinds := [.data, .data, .pinned], laidTests := true, laidLooks := .later }
def ScanBytesCardSaid : Prop := Claim7.holds Tryz.pinned (.plain (OpenSpec.ofChange scanBytesSpec)) scanBytesCard

/-- THE TIED CARD OF 'cribblelaw18.ScanNames'. -/
def scanNamesCard : Claim7 := { stood := { row := scanNamesRow, standIns := [], harness := (true, "68ff07a6ce357ca7c0adb0ddcf691e786e67c7a11487be96aa11ddf641928576"), looks := false }, kinds := [], alts := [], laidByText := true, laidKinds := [.data, .data, .pinned], laidTests := true, laidLooks := .later }
def ScanNamesCardSaid : Prop := Claim7.holds Tryz.pinned (.plain (OpenSpec.ofChange scanNamesSpec)) scanNamesCard

/-- THE TIED CARD OF 'cribblelaw18.ScanParts'. -/
def scanPartsCard : Claim7 := { stood := { row := scanPartsRow, standIns := [], harness := (true, "68ff07a6ce357ca7c0adb0ddcf691e786e67c7a11487be96aa11ddf641928576"), looks := false }, kinds := [], alts := [], laidByText := true, laidKinds := [.data, .data, .pinned], laidTests := true, laidLooks := .later }
def ScanPartsCardSaid : Prop := Claim7.holds Tryz.pinned (.plain (OpenSpec.ofChange scanPartsSpec)) scanPartsCard

/-- THE TIED CARD OF 'cribblelaw18.ScanPlain'. -/
def scanPlainCard : Claim7 := { stood := { row := scanPlainRow, standIns := [], harness := (true, "68ff07a6ce357ca7c0adb0ddcf691e786e67c7a11487be96aa11ddf641928576"), looks := false }, kinds := [], alts := [], laidByText := true, laidKinds := [.data, .data, .pinned], laidTests := true, laidLooks := .later }
def ScanPlainCardSaid : Prop := Claim7.holds Tryz.pinned (.plain (OpenSpec.ofChange scanPlainSpec)) scanPlainCard

/-- THE TIED CARD OF 'cribblelaw18.ScanHeld'. -/
def scanHeldCard : Claim7 := { stood := { row := scanHeldRow, standIns := [], harness := (true, "68ff07a6ce357ca7c0adb0ddcf691e786e67c7a11487be96aa11ddf641928576"), looks := false }, kinds := [], alts := [], laidByText := true, laidKinds := [.data, .data, .pinned], laidTests := true, laidLooks := .later }
def ScanHeldCardSaid : Prop := Claim7.holds Tryz.pinned (.plain (OpenSpec.ofChange scanHeldSpec)) scanHeldCard

/-- THE TIED CARD OF 'cribblelaw18.ScanMarks'. -/
def scanMarksCard : Claim7 := { stood := { row := scanMarksRow, standIns := [], harness := (true, "68ff07a6ce357ca7c0adb0ddcf691e786e67c7a11487be96aa11ddf641928576"), looks := false }, kinds := [], alts := [], laidByText := true, laidKinds := [.data, .data, .pinned], laidTests := true, laidLooks := .later }
def ScanMarksCardSaid : Prop := Claim7.holds Tryz.pinned (.plain (OpenSpec.ofChange scanMarksSpec)) scanMarksCard

/-- THE TIED CARD OF 'cribblelaw22.SerialBack'. -/
def serialBackCard : Claim7 := { stood := { row := serialBackRow, standIns := [], harness := (true, "68ff07a6ce357ca7c0adb0ddcf691e786e67c7a11487be96aa11ddf641928576"), looks := false }, kinds := [], alts := [], laidByText := true, laidKinds := [.data, .data, .pinned], laidTests := true, laidLooks := .later }
def SerialBackCardSaid : Prop := Claim7.holds Tryz.pinned (.plain (OpenSpec.ofChange serialBackSpec)) serialBackCard

/-- THE TIED CARD OF 'cribblelaw22.SerialPlain'. -/
def serialPlainCard : Claim7 := { stood := { row := serialPlainRow, standIns := [], harness := (true, "68ff07a6ce357ca7c0adb0ddcf691e786e67c7a11487be96aa11ddf641928576"), looks := false }, kinds := [], alts := [], laidByText := true, laidKinds := [.data, .data, .pinned], laidTests := true, laidLooks := .later }
def SerialPlainCardSaid : Prop := Claim7.holds Tryz.pinned (.plain (OpenSpec.ofChange serialPlainSpec)) serialPlainCard

/-- THE SECOND FORM's CARD OF 'cribblelaw18.ScanTokens'. -/
def scanTokensUptoCard : Claim7 := { stood := { row := scanTokensUptoRow, standIns := [], harness := (true, "68ff07a6ce357ca7c0adb0ddcf691e786e67c7a11487be96aa11ddf641928576"), looks := false }, kinds := [], alts := [], laidByText := true, laidKinds := [.data, .data, .pinned], laidTests := true, laidLooks := .later }
def ScanTokensUptoCardSaid : Prop := Claim7.holds Tryz.pinned (.plain (OpenSpec.upto scanTokensSpec)) scanTokensUptoCard

/-- THE SECOND FORM's CARD OF 'cribblelaw18.ScanBytes'. -/
def scanBytesUptoCard : Claim7 := { stood := { row := scanBytesUptoRow, standIns := [], harness := (true, "68ff07a6ce357ca7c0adb0ddcf691e786e67c7a11487be96aa11ddf641928576"), looks := false }, kinds := [], alts := [], laidByText := true, laidKinds := [.data, .data, .pinned], laidTests := true, laidLooks := .later }
def ScanBytesUptoCardSaid : Prop := Claim7.holds Tryz.pinned (.plain (OpenSpec.upto scanBytesSpec)) scanBytesUptoCard

/-- THE SECOND FORM's CARD OF 'cribblelaw18.ScanNames'. -/
def scanNamesUptoCard : Claim7 := { stood := { row := scanNamesUptoRow, standIns := [], harness := (true, "68ff07a6ce357ca7c0adb0ddcf691e786e67c7a11487be96aa11ddf641928576"), looks := false }, kinds := [], alts := [], laidByText := true, laidKinds := [.data, .data, .pinned], laidTests := true, laidLooks := .later }
def ScanNamesUptoCardSaid : Prop := Claim7.holds Tryz.pinned (.plain (OpenSpec.upto scanNamesSpec)) scanNamesUptoCard

/-- THE SECOND FORM's CARD OF 'cribblelaw18.ScanParts'. -/
def scanPartsUptoCard : Claim7 := { stood := { row := scanPartsUptoRow, standIns := [], harness := (true, "68ff07a6ce357ca7c0adb0ddcf691e786e67c7a11487be96aa11ddf641928576"), looks := false }, kinds := [], alts := [], laidByText := true, laidKinds := [.data, .data, .pinned], laidTests := true, laidLooks := .later }
def ScanPartsUptoCardSaid : Prop := Claim7.holds Tryz.pinned (.plain (OpenSpec.upto scanPartsSpec)) scanPartsUptoCard

/-- THE SECOND FORM's CARD OF 'cribblelaw18.ScanPlain'. -/
def scanPlainUptoCard : Claim7 := { stood := { row := scanPlainUptoRow, standIns := [], harness := (true, "68ff07a6ce357ca7c0adb0ddcf691e786e67c7a11487be96aa11ddf641928576"), looks := false }, kinds := [], alts := [], laidByText := true, laidKinds := [.data, .data, .pinned], laidTests := true, laidLooks := .later }
def ScanPlainUptoCardSaid : Prop := Claim7.holds Tryz.pinned (.plain (OpenSpec.upto scanPlainSpec)) scanPlainUptoCard

/-- THE SECOND FORM's CARD OF 'cribblelaw18.ScanHeld'. -/
def scanHeldUptoCard : Claim7 := { stood := { row := scanHeldUptoRow, standIns := [], harness := (true, "68ff07a6ce357ca7c0adb0ddcf691e786e67c7a11487be96aa11ddf641928576"), looks := false }, kinds := [], alts := [], laidByText := true, laidKinds := [.data, .data, .pinned], laidTests := true, laidLooks := .later }
def ScanHeldUptoCardSaid : Prop := Claim7.holds Tryz.pinned (.plain (OpenSpec.upto scanHeldSpec)) scanHeldUptoCard

/-- THE SECOND FORM's CARD OF 'cribblelaw18.ScanMarks'. -/
def scanMarksUptoCard : Claim7 := { stood := { row := scanMarksUptoRow, standIns := [], harness := (true, "68ff07a6ce357ca7c0adb0ddcf691e786e67c7a11487be96aa11ddf641928576"), looks := false }, kinds := [], alts := [], laidByText := true, laidKinds := [.data, .data, .pinned], laidTests := true, laidLooks := .later }
def ScanMarksUptoCardSaid : Prop := Claim7.holds Tryz.pinned (.plain (OpenSpec.upto scanMarksSpec)) scanMarksUptoCard

/-- THE SECOND FORM's CARD OF 'cribblelaw22.SerialBack'. -/
def serialBackUptoCard : Claim7 := { stood := { row := serialBackUptoRow, standIns := [], harness := (true, "68ff07a6ce357ca7c0adb0ddcf691e786e67c7a11487be96aa11ddf641928576"), looks := false }, kinds := [], alts := [], laidByText := true, laidKinds := [.data, .data, .pinned], laidTests := true, laidLooks := .later }
def SerialBackUptoCardSaid : Prop := Claim7.holds Tryz.pinned (.plain (OpenSpec.upto serialBackSpec)) serialBackUptoCard

/-- THE SECOND FORM's CARD OF 'cribblelaw22.SerialPlain'. -/
def serialPlainUptoCard : Claim7 := { stood := { row := serialPlainUptoRow, standIns := [], harness := (true, "68ff07a6ce357ca7c0adb0ddcf691e786e67c7a11487be96aa11ddf641928576"), looks := false }, kinds := [], alts := [], laidByText := true, laidKinds := [.data, .data, .pinned], laidTests := true, laidLooks := .later }
def SerialPlainUptoCardSaid : Prop := Claim7.holds Tryz.pinned (.plain (OpenSpec.upto serialPlainSpec)) serialPlainUptoCard
end Rows
end Go.Proofs.YtoacojkmclngmaaGreatDoor
