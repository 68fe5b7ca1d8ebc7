/-
  DERIVED. GIVEN WITH THE SEED: THE CARDS: each row of YtpmefpdafkbphaaDoorRows.lean that lists a variable, with what it lists TIED to the program's text (the seventh form; the later family's looks); each row that meets fmt, with fmt's text TOLD by the authors' own Lean function (tested against real Go, not proved from fmt's source: count such statements apart). THE CARD IS WHAT COUNTS. Prove the row's statement (the work); the ties are given (YtpmefpdafkbphaaDoorTie.lean); close each card by the builder's one call (the guide's Derived/Test/ToyasCard.lean, 'card_holds'). Laid BY PROGRAM, IN A SANDBOX (cutbox-door.mjs). By AI agents, Wed Nov 11 2026. No macro, syntax, notation, axiom, sorry.
-/
import Derived.Test.YtpmefpdafkbphaaDoorRows
import GoSem.ClaimSeven
namespace Go.Proofs.YtpmefpdafkbphaaDoor
namespace Rows

/-- THE TIED CARD OF 'rubricklaw07.ConsProves'. -/
def consProvesCard : Claim7 := { stood := { row := consProvesRow, standIns := [], harness := (true, "b2cdc717e06a9a69dffb952adcee5e17eff8733bb3ebd162b7742dfb8a054d42"), looks := false }, kinds := [], alts := [], laidByText := true, laidKinds := [.data], laidTests := true, laidLooks := .later }
def ConsProvesCardSaid : Prop := Claim7.holds Tryd.pinned (.plain (OpenSpec.ofChange consProvesSpec)) consProvesCard

/-- THE TIED CARD OF 'rubricklaw07.ConsChecks'. -/
def consChecksCard : Claim7 := { stood := { row := consChecksRow, standIns := [], harness := (true, "b2cdc717e06a9a69dffb952adcee5e17eff8733bb3ebd162b7742dfb8a054d42"), looks := false }, kinds := [], alts := [], laidByText := true, laidKinds := [.data], laidTests := true, laidLooks := .later }
def ConsChecksCardSaid : Prop := Claim7.holds Tryd.pinned (.plain (OpenSpec.ofChange consChecksSpec)) consChecksCard

/-- THE TIED CARD OF 'rubricklaw07.ConsBack'. -/
def consBackCard : Claim7 := { stood := { row := consBackRow, standIns := [], harness := (true, "b2cdc717e06a9a69dffb952adcee5e17eff8733bb3ebd162b7742dfb8a054d42"), looks := false }, kinds := [], alts := [], laidByText := true, laidKinds := [.data], laidTests := true, laidLooks := .later }
def ConsBackCardSaid : Prop := Claim7.holds Tryd.pinned (.plain (OpenSpec.ofChange consBackSpec)) consBackCard

/-- THE TIED CARD OF 'rubricklaw07.ConsLength'. -/
def consLengthCard : Claim7 := { stood := { row := consLengthRow, standIns := [], harness := (true, "b2cdc717e06a9a69dffb952adcee5e17eff8733bb3ebd162b7742dfb8a054d42"), looks := false }, kinds := [], alts := [], laidByText := true, laidKinds := [.data], laidTests := true, laidLooks := .later }
def ConsLengthCardSaid : Prop := Claim7.holds Tryd.pinned (.plain (OpenSpec.ofChange consLengthSpec)) consLengthCard

/-- THE TIED CARD OF 'rubricklaw07.ConsEnds'. -/
def consEndsCard : Claim7 := { stood := { row := consEndsRow, standIns := [], harness := (true, "b2cdc717e06a9a69dffb952adcee5e17eff8733bb3ebd162b7742dfb8a054d42"), looks := false }, kinds := [], alts := [], laidByText := true, laidKinds := [.data], laidTests := true, laidLooks := .later }
def ConsEndsCardSaid : Prop := Claim7.holds Tryd.pinned (.plain (OpenSpec.ofChange consEndsSpec)) consEndsCard

/-- THE TIED CARD OF 'rubricklaw08.ClashLeaf'. -/
def clashLeafCard : Claim7 := { stood := { row := clashLeafRow, standIns := [], harness := (true, "b2cdc717e06a9a69dffb952adcee5e17eff8733bb3ebd162b7742dfb8a054d42"), looks := false }, kinds := [], alts := [], laidByText := true, laidKinds := [.data], laidTests := true, laidLooks := .later }
def ClashLeafCardSaid : Prop := Claim7.holds Tryd.pinned (.plain (OpenSpec.ofChange clashLeafSpec)) clashLeafCard

/-- THE TIED CARD OF 'rubricklaw08.ClashFinds'. -/
def clashFindsCard : Claim7 := { stood := { row := clashFindsRow, standIns := [], harness := (true, "b2cdc717e06a9a69dffb952adcee5e17eff8733bb3ebd162b7742dfb8a054d42"), looks := false }, kinds := [], alts := [], laidByText := true, laidKinds := [.data], laidTests := true, laidLooks := .later }
def ClashFindsCardSaid : Prop := Claim7.holds Tryd.pinned (.plain (OpenSpec.ofChange clashFindsSpec)) clashFindsCard

/-- THE TIED CARD OF 'rubricklaw08.ClashRoots'. -/
def clashRootsCard : Claim7 := { stood := { row := clashRootsRow, standIns := [], harness := (true, "b2cdc717e06a9a69dffb952adcee5e17eff8733bb3ebd162b7742dfb8a054d42"), looks := false }, kinds := [], alts := [], laidByText := true, laidKinds := [.data], laidTests := true, laidLooks := .later }
def ClashRootsCardSaid : Prop := Claim7.holds Tryd.pinned (.plain (OpenSpec.ofChange clashRootsSpec)) clashRootsCard

/-- THE TIED CARD OF 'rubricklaw08.ClashTwo'. -/
def clashTwoCard : Claim7 := { stood := { row := clashTwoRow, standIns := [], harness := (true, "b2cdc717e06a9a69dffb952adcee5e17eff8733bb3ebd162b7742dfb8a054d42"), looks := false }, kinds := [], alts := [], laidByText := true, laidKinds := [.data], laidTests := true, laidLooks := .later }
def ClashTwoCardSaid : Prop := Claim7.holds Tryd.pinned (.plain (OpenSpec.ofChange clashTwoSpec)) clashTwoCard

/-- THE TIED CARD OF 'rubricklaw08.ClashCons'. -/
def clashConsCard : Claim7 := { stood := { row := clashConsRow, standIns := [], harness := (true, "b2cdc717e06a9a69dffb952adcee5e17eff8733bb3ebd162b7742dfb8a054d42"), looks := false }, kinds := [], alts := [], laidByText := true, laidKinds := [.data], laidTests := true, laidLooks := .later }
def ClashConsCardSaid : Prop := Claim7.holds Tryd.pinned (.plain (OpenSpec.ofChange clashConsSpec)) clashConsCard

/-- THE TIED CARD OF 'rubricklaw08.ClashAhead'. -/
def clashAheadCard : Claim7 := { stood := { row := clashAheadRow, standIns := [], harness := (true, "b2cdc717e06a9a69dffb952adcee5e17eff8733bb3ebd162b7742dfb8a054d42"), looks := false }, kinds := [], alts := [], laidByText := true, laidKinds := [.data], laidTests := true, laidLooks := .later }
def ClashAheadCardSaid : Prop := Claim7.holds Tryd.pinned (.plain (OpenSpec.ofChange clashAheadSpec)) clashAheadCard

/-- THE SECOND FORM's CARD OF 'rubricklaw07.ConsProves'. -/
def consProvesUptoCard : Claim7 := { stood := { row := consProvesUptoRow, standIns := [], harness := (true, "b2cdc717e06a9a69dffb952adcee5e17eff8733bb3ebd162b7742dfb8a054d42"), looks := false }, kinds := [], alts := [], laidByText := true, laidKinds := [.data], laidTests := true, laidLooks := .later }
def ConsProvesUptoCardSaid : Prop := Claim7.holds Tryd.pinned (.plain (OpenSpec.upto consProvesSpec)) consProvesUptoCard

/-- THE SECOND FORM's CARD OF 'rubricklaw07.ConsChecks'. -/
def consChecksUptoCard : Claim7 := { stood := { row := consChecksUptoRow, standIns := [], harness := (true, "b2cdc717e06a9a69dffb952adcee5e17eff8733bb3ebd162b7742dfb8a054d42"), looks := false }, kinds := [], alts := [], laidByText := true, laidKinds := [.data], laidTests := true, laidLooks := .later }
def ConsChecksUptoCardSaid : Prop := Claim7.holds Tryd.pinned (.plain (OpenSpec.upto consChecksSpec)) consChecksUptoCard

/-- THE SECOND FORM's CARD OF 'rubricklaw07.ConsBack'. -/
def consBackUptoCard : Claim7 := { stood := { row := consBackUptoRow, standIns := [], harness := (true, "b2cdc717e06a9a69dffb952adcee5e17eff8733bb3ebd162b7742dfb8a054d42"), looks := false }, kinds := [], alts := [], laidByText := true, laidKinds := [.data], laidTests := true, laidLooks := .later }
def ConsBackUptoCardSaid : Prop := Claim7.holds Tryd.pinned (.plain (OpenSpec.upto consBackSpec)) consBackUptoCard

/-- THE SECOND FORM's CARD OF 'rubricklaw07.ConsLength'. -/
def consLengthUptoCard : Claim7 := { stood := { row := consLengthUptoRow, standIns := [], harness := (true, "b2cdc717e06a9a69dffb952adcee5e17eff8733bb3ebd162b7742dfb8a054d42"), looks := false }, kinds := [], alts := [], laidByText := true, laidKinds := [.data], laidTests := true, laidLooks := .later }
def ConsLengthUptoCardSaid : Prop := Claim7.holds Tryd.pinned (.plain (OpenSpec.upto consLengthSpec)) consLengthUptoCard

/-- THE SECOND FORM's CARD OF 'rubricklaw07.ConsEnds'. -/
def consEndsUptoCard : Claim7 := { stood := { row := consEndsUptoRow, standIns := [], harness := (true, "b2cdc717e06a9a69dffb952adcee5e17eff8733bb3ebd162b7742dfb8a054d42"), looks := false }, kinds := [], alts := [], laidByText := true, laidKinds := [.data], laidTests := true, laidLooks := .later }
def ConsEndsUptoCardSaid : Prop := Claim7.holds Tryd.pinned (.plain (OpenSpec.upto consEndsSpec)) consEndsUptoCard

/-- THE SECOND FORM's CARD OF 'rubricklaw08.ClashLeaf'. -/
def clashLeafUptoCard : Claim7 := { stood := { row := clashLeafUptoRow, standIns := [], harness := (true, "b2cdc717e06a9a69dffb952adcee5e17eff8733bb3ebd162b7742dfb8a054d42"), looks := false }, kinds := [], alts := [], laidByText := true, laidKinds := [.data], laidTests := true, laidLooks := .later }
def ClashLeafUptoCardSaid : Prop := Claim7.holds Tryd.pinned (.plain (OpenSpec.upto clashLeafSpec)) clashLeafUptoCard

/-- THE SECOND FORM's CARD OF 'rubricklaw08.ClashFinds'. -/
def clashFindsUptoCard : Claim7 := { stood := { row := clashFindsUptoRow, standIns := [], harness := (true, "b2cdc717e06a9a69dffb952adcee5e17eff8733bb3ebd162b7742dfb8a054d42"), looks := false }, kinds := [], alts := [], laidByText := true, laidKinds := [.data], laidTests := true, laidLooks := .later }
def ClashFindsUptoCardSaid : Prop := Claim7.holds Tryd.pinned (.plain (OpenSpec.upto clashFindsSpec)) clashFindsUptoCard

/-- THE SECOND FORM's CARD OF 'rubricklaw08.ClashRoots'. -/
def clashRootsUptoCard : Claim7 := { stood := { row := clashRootsUptoRow, standIns := [], harness := (true, "b2cdc717e06a9a69dffb952adcee5e17eff8733bb3ebd162b7742dfb8a054d42"), looks := false }, kinds := [], alts := [], laidByText := true, laidKinds := [.data], laidTests := true, laidLooks := .later }
def ClashRootsUptoCardSaid : Prop := Claim7.holds Tryd.pinned (.plain (OpenSpec.upto clashRootsSpec)) clashRootsUptoCard

/-- THE SECOND FORM's CARD OF 'rubricklaw08.ClashTwo'. -/
def clashTwoUptoCard : Claim7 := { stood := { row := clashTwoUptoRow, standIns := [], harness := (true, "b2cdc717e06a9a69dffb952adcee5e17eff8733bb3ebd162b7742dfb8a054d42"), looks := false }, kinds := [], alts := [], laidByText := true, laidKinds := [.data], laidTests := true, laidLooks := .later }
def ClashTwoUptoCardSaid : Prop := Claim7.holds Tryd.pinned (.plain (OpenSpec.upto clashTwoSpec)) clashTwoUptoCard

/-- THE SECOND FORM's CARD OF 'rubricklaw08.ClashCons'. -/
def clashConsUptoCard : Claim7 := { stood := { row := clashConsUptoRow, standIns := [], harness := (true, "b2cdc717e06a9a69dffb952adcee5e17eff8733bb3ebd162b7742dfb8a054d42"), looks := false }, kinds := [], alts := [], laidByText := true, laidKinds := [.data], laidTests := true, laidLooks := .later }
def ClashConsUptoCardSaid : Prop := Claim7.holds Tryd.pinned (.plain (OpenSpec.upto clashConsSpec)) clashConsUptoCard

/-- THE SECOND FORM's CARD OF 'rubricklaw08.ClashAhead'. -/
def clashAheadUptoCard : Claim7 := { stood := { row := clashAheadUptoRow, standIns := [], harness := (true, "b2cdc717e06a9a69dffb952adcee5e17eff8733bb3ebd162b7742dfb8a054d42"), looks := false }, kinds := [], alts := [], laidByText := true, laidKinds := [.data], laidTests := true, laidLooks := .later }
def ClashAheadUptoCardSaid : Prop := Claim7.holds Tryd.pinned (.plain (OpenSpec.upto clashAheadSpec)) clashAheadUptoCard
end Rows
end Go.Proofs.YtpmefpdafkbphaaDoor
