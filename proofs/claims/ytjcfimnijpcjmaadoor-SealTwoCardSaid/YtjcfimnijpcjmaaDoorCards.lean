/-
  DERIVED. GIVEN WITH THE SEED: THE CARDS: each row of YtjcfimnijpcjmaaDoorRows.lean that lists a variable, with what it lists TIED to the program's text (the seventh form; the later family's looks); each row that meets fmt, with fmt's text TOLD by the authors' own Lean function (tested against real Go, not proved from fmt's source: count such statements apart). THE CARD IS WHAT COUNTS. Prove the row's statement (the work); the ties are given (YtjcfimnijpcjmaaDoorTie.lean); close each card by the builder's one call (the guide's Derived/Test/ToyasCard.lean, 'card_holds'). Laid BY PROGRAM, IN A SANDBOX (cutbox-door.mjs). By AI agents, Wed Nov 11 2026. No macro, syntax, notation, axiom, sorry.
-/
import Derived.Test.YtjcfimnijpcjmaaDoorRows
import GoSem.ClaimSeven
namespace Go.Proofs.YtjcfimnijpcjmaaDoor
namespace Rows

/-- THE TIED CARD OF 'rubricklaw03.SealApart'. -/
def sealApartCard : Claim7 := { stood := { row := sealApartRow, standIns := [], harness := (true, "75210eda2bbc4651c78463f90d96622c75c83626056f87bbdb966c756c5f45a8"), looks := false }, kinds := [], alts := [], laidByText := true, laidKinds := [.data], laidTests := true, laidLooks := .later }
def SealApartCardSaid : Prop := Claim7.holds Tryd.pinned (.plain (OpenSpec.ofChange sealApartSpec)) sealApartCard

/-- THE TIED CARD OF 'rubricklaw03.SealSeals'. -/
def sealSealsCard : Claim7 := { stood := { row := sealSealsRow, standIns := [], harness := (true, "75210eda2bbc4651c78463f90d96622c75c83626056f87bbdb966c756c5f45a8"), looks := false }, kinds := [], alts := [], laidByText := true, laidKinds := [.data], laidTests := true, laidLooks := .later }
def SealSealsCardSaid : Prop := Claim7.holds Tryd.pinned (.plain (OpenSpec.ofChange sealSealsSpec)) sealSealsCard

/-- THE TIED CARD OF 'rubricklaw03.SealLens'. -/
def sealLensCard : Claim7 := { stood := { row := sealLensRow, standIns := [], harness := (true, "75210eda2bbc4651c78463f90d96622c75c83626056f87bbdb966c756c5f45a8"), looks := false }, kinds := [], alts := [], laidByText := true, laidKinds := [.data], laidTests := true, laidLooks := .later }
def SealLensCardSaid : Prop := Claim7.holds Tryd.pinned (.plain (OpenSpec.ofChange sealLensSpec)) sealLensCard

/-- THE TIED CARD OF 'rubricklaw01.ShaSums'. -/
def shaSumsCard : Claim7 := { stood := { row := shaSumsRow, standIns := [], harness := (true, "75210eda2bbc4651c78463f90d96622c75c83626056f87bbdb966c756c5f45a8"), looks := false }, kinds := [], alts := [], laidByText := true, laidKinds := [.data], laidTests := true, laidLooks := .later }
def ShaSumsCardSaid : Prop := Claim7.holds Tryd.pinned (.plain (OpenSpec.ofChange shaSumsSpec)) shaSumsCard

/-- THE TIED CARD OF 'rubricklaw01.ShaParts'. -/
def shaPartsCard : Claim7 := { stood := { row := shaPartsRow, standIns := [], harness := (true, "75210eda2bbc4651c78463f90d96622c75c83626056f87bbdb966c756c5f45a8"), looks := false }, kinds := [], alts := [], laidByText := true, laidKinds := [.data], laidTests := true, laidLooks := .later }
def ShaPartsCardSaid : Prop := Claim7.holds Tryd.pinned (.plain (OpenSpec.ofChange shaPartsSpec)) shaPartsCard

/-- THE TIED CARD OF 'rubricklaw01.ShaBad'. -/
def shaBadCard : Claim7 := { stood := { row := shaBadRow, standIns := [], harness := (true, "75210eda2bbc4651c78463f90d96622c75c83626056f87bbdb966c756c5f45a8"), looks := false }, kinds := [], alts := [], laidByText := true, laidKinds := [.data], laidTests := true, laidLooks := .later }
def ShaBadCardSaid : Prop := Claim7.holds Tryd.pinned (.plain (OpenSpec.ofChange shaBadSpec)) shaBadCard

/-- THE TIED CARD OF 'rubricklaw01.ShaHex'. -/
def shaHexCard : Claim7 := { stood := { row := shaHexRow, standIns := [], harness := (true, "75210eda2bbc4651c78463f90d96622c75c83626056f87bbdb966c756c5f45a8"), looks := false }, kinds := [], alts := [], laidByText := true, laidKinds := [.data], laidTests := true, laidLooks := .later }
def ShaHexCardSaid : Prop := Claim7.holds Tryd.pinned (.plain (OpenSpec.ofChange shaHexSpec)) shaHexCard

/-- THE TIED CARD OF 'rubricklaw01.ShaBack'. -/
def shaBackCard : Claim7 := { stood := { row := shaBackRow, standIns := [], harness := (true, "75210eda2bbc4651c78463f90d96622c75c83626056f87bbdb966c756c5f45a8"), looks := false }, kinds := [], alts := [], laidByText := true, laidKinds := [.data], laidTests := true, laidLooks := .later }
def ShaBackCardSaid : Prop := Claim7.holds Tryd.pinned (.plain (OpenSpec.ofChange shaBackSpec)) shaBackCard

/-- THE TIED CARD OF 'rubricklaw03.SealClashes'. -/
def sealClashesCard : Claim7 := { stood := { row := sealClashesRow, standIns := [], harness := (true, "75210eda2bbc4651c78463f90d96622c75c83626056f87bbdb966c756c5f45a8"), looks := false }, kinds := [], alts := [], laidByText := true, laidKinds := [.data], laidTests := true, laidLooks := .later }
def SealClashesCardSaid : Prop := Claim7.holds Tryd.pinned (.plain (OpenSpec.ofChange sealClashesSpec)) sealClashesCard

/-- THE TIED CARD OF 'rubricklaw03.SealTwo'. -/
def sealTwoCard : Claim7 := { stood := { row := sealTwoRow, standIns := [], harness := (true, "75210eda2bbc4651c78463f90d96622c75c83626056f87bbdb966c756c5f45a8"), looks := false }, kinds := [], alts := [], laidByText := true, laidKinds := [.data], laidTests := true, laidLooks := .later }
def SealTwoCardSaid : Prop := Claim7.holds Tryd.pinned (.plain (OpenSpec.ofChange sealTwoSpec)) sealTwoCard

/-- THE SECOND FORM's CARD OF 'rubricklaw03.SealApart'. -/
def sealApartUptoCard : Claim7 := { stood := { row := sealApartUptoRow, standIns := [], harness := (true, "75210eda2bbc4651c78463f90d96622c75c83626056f87bbdb966c756c5f45a8"), looks := false }, kinds := [], alts := [], laidByText := true, laidKinds := [.data], laidTests := true, laidLooks := .later }
def SealApartUptoCardSaid : Prop := Claim7.holds Tryd.pinned (.plain (OpenSpec.upto sealApartSpec)) sealApartUptoCard

/-- THE SECOND FORM's CARD OF 'rubricklaw03.SealSeals'. -/
def sealSealsUptoCard : Claim7 := { stood := { row := sealSealsUptoRow, standIns := [], harness := (true, "75210eda2bbc4651c78463f90d96622c75c83626056f87bbdb966c756c5f45a8"), looks := false }, kinds := [], alts := [], laidByText := true, laidKinds := [.data], laidTests := true, laidLooks := .later }
def SealSealsUptoCardSaid : Prop := Claim7.holds Tryd.pinned (.plain (OpenSpec.upto sealSealsSpec)) sealSealsUptoCard

/-- THE SECOND FORM's CARD OF 'rubricklaw03.SealLens'. -/
def sealLensUptoCard : Claim7 := { stood := { row := sealLensUptoRow, standIns := [], harness := (true, "75210eda2bbc4651c78463f90d96622c75c83626056f87bbdb966c756c5f45a8"), looks := false }, kinds := [], alts := [], laidByText := true, laidKinds := [.data], laidTests := true, laidLooks := .later }
def SealLensUptoCardSaid : Prop := Claim7.holds Tryd.pinned (.plain (OpenSpec.upto sealLensSpec)) sealLensUptoCard

/-- THE SECOND FORM's CARD OF 'rubricklaw01.ShaSums'. -/
def shaSumsUptoCard : Claim7 := { stood := { row := shaSumsUptoRow, standIns := [], harness := (true, "75210eda2bbc4651c78463f90d96622c75c83626056f87bbdb966c756c5f45a8"), looks := false }, kinds := [], alts := [], laidByText := true, laidKinds := [.data], laidTests := true, laidLooks := .later }
def ShaSumsUptoCardSaid : Prop := Claim7.holds Tryd.pinned (.plain (OpenSpec.upto shaSumsSpec)) shaSumsUptoCard

/-- THE SECOND FORM's CARD OF 'rubricklaw01.ShaParts'. -/
def shaPartsUptoCard : Claim7 := { stood := { row := shaPartsUptoRow, standIns := [], harness := (true, "75210eda2bbc4651c78463f90d96622c75c83626056f87bbdb966c756c5f45a8"), looks := false }, kinds := [], alts := [], laidByText := true, laidKinds := [.data], laidTests := true, laidLooks := .later }
def ShaPartsUptoCardSaid : Prop := Claim7.holds Tryd.pinned (.plain (OpenSpec.upto shaPartsSpec)) shaPartsUptoCard

/-- THE SECOND FORM's CARD OF 'rubricklaw01.ShaBad'. -/
def shaBadUptoCard : Claim7 := { stood := { row := shaBadUptoRow, standIns := [], harness := (true, "75210eda2bbc4651c78463f90d96622c75c83626056f87bbdb966c756c5f45a8"), looks := false }, kinds := [], alts := [], laidByText := true, laidKinds := [.data], laidTests := true, laidLooks := .later }
def ShaBadUptoCardSaid : Prop := Claim7.holds Tryd.pinned (.plain (OpenSpec.upto shaBadSpec)) shaBadUptoCard

/-- THE SECOND FORM's CARD OF 'rubricklaw01.ShaHex'. -/
def shaHexUptoCard : Claim7 := { stood := { row := shaHexUptoRow, standIns := [], harness := (true, "75210eda2bbc4651c78463f90d96622c75c83626056f87bbdb966c756c5f45a8"), looks := false }, kinds := [], alts := [], laidByText := true, laidKinds := [.data], laidTests := true, laidLooks := .later }
def ShaHexUptoCardSaid : Prop := Claim7.holds Tryd.pinned (.plain (OpenSpec.upto shaHexSpec)) shaHexUptoCard

/-- THE SECOND FORM's CARD OF 'rubricklaw01.ShaBack'. -/
def shaBackUptoCard : Claim7 := { stood := { row := shaBackUptoRow, standIns := [], harness := (true, "75210eda2bbc4651c78463f90d96622c75c83626056f87bbdb966c756c5f45a8"), looks := false }, kinds := [], alts := [], laidByText := true, laidKinds := [.data], laidTests := true, laidLooks := .later }
def ShaBackUptoCardSaid : Prop := Claim7.holds Tryd.pinned (.plain (OpenSpec.upto shaBackSpec)) shaBackUptoCard

/-- THE SECOND FORM's CARD OF 'rubricklaw03.SealClashes'. -/
def sealClashesUptoCard : Claim7 := { stood := { row := sealClashesUptoRow, standIns := [], harness := (true, "75210eda2bbc4651c78463f90d96622c75c83626056f87bbdb966c756c5f45a8"), looks := false }, kinds := [], alts := [], laidByText := true, laidKinds := [.data], laidTests := true, laidLooks := .later }
def SealClashesUptoCardSaid : Prop := Claim7.holds Tryd.pinned (.plain (OpenSpec.upto sealClashesSpec)) sealClashesUptoCard

/-- THE SECOND FORM's CARD OF 'rubricklaw03.SealTwo'. -/
def sealTwoUptoCard : Claim7 := { stood := { row := sealTwoUptoRow, standIns := [], harness := (true, "75210eda2bbc4651c78463f90d96622c75c83626056f87bbdb966c756c5f45a8"), looks := false }, kinds := [], alts := [], laidByText := true, laidKinds := [.data], laidTests := true, laidLooks := .later }
def SealTwoUptoCardSaid : Prop := Claim7.holds Tryd.pinned (.plain (OpenSpec.upto sealTwoSpec)) sealTwoUptoCard
end Rows
end Go.Proofs.YtjcfimnijpcjmaaDoor
