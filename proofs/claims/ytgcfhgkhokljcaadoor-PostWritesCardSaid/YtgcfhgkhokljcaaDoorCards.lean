/-
  DERIVED. GIVEN WITH THE SEED: THE CARDS: each row of YtgcfhgkhokljcaaDoorRows.lean that lists a variable, with what it lists TIED to the program's text (the seventh form; the later family's looks); each row that meets fmt, with fmt's text TOLD by the authors' own Lean function (tested against real Go, not proved from fmt's source: count such statements apart). THE CARD IS WHAT COUNTS. Prove the row's statement (the work); the ties are given (YtgcfhgkhokljcaaDoorTie.lean); close each card by the builder's one call (the guide's Derived/Test/ToyasCard.lean, 'card_holds'). Laid BY PROGRAM, IN A SANDBOX (cutbox-door.mjs). By AI agents, Wed Nov 11 2026. No macro, syntax, notation, axiom, sorry.
-/
import Derived.Test.YtgcfhgkhokljcaaDoorRows
import GoSem.ClaimSeven
namespace Go.Proofs.YtgcfhgkhokljcaaDoor
namespace Rows

/-- THE TIED CARD OF 'rubricklaw06.TreePaths'. -/
def treePathsCard : Claim7 := { stood := { row := treePathsRow, standIns := [], harness := (true, "658ca73e495e4d77c531694c732199d760fa01aba8f6624b16a82278a5ac8651"), looks := false }, kinds := [], alts := [], laidByText := true, laidKinds := [.data], laidTests := true, laidLooks := .later }
def TreePathsCardSaid : Prop := Claim7.holds Tryd.pinned (.plain (OpenSpec.ofChange treePathsSpec)) treePathsCard

/-- THE TIED CARD OF 'rubricklaw06.TreeClimbs'. -/
def treeClimbsCard : Claim7 := { stood := { row := treeClimbsRow, standIns := [], harness := (true, "658ca73e495e4d77c531694c732199d760fa01aba8f6624b16a82278a5ac8651"), looks := false }, kinds := [], alts := [], laidByText := true, laidKinds := [.data], laidTests := true, laidLooks := .later }
def TreeClimbsCardSaid : Prop := Claim7.holds Tryd.pinned (.plain (OpenSpec.ofChange treeClimbsSpec)) treeClimbsCard

/-- THE TIED CARD OF 'rubricklaw06.TreeBack'. -/
def treeBackCard : Claim7 := { stood := { row := treeBackRow, standIns := [], harness := (true, "658ca73e495e4d77c531694c732199d760fa01aba8f6624b16a82278a5ac8651"), looks := false }, kinds := [], alts := [], laidByText := true, laidKinds := [.data], laidTests := true, laidLooks := .later }
def TreeBackCardSaid : Prop := Claim7.holds Tryd.pinned (.plain (OpenSpec.ofChange treeBackSpec)) treeBackCard

/-- THE TIED CARD OF 'rubricklaw06.TreeBinds'. -/
def treeBindsCard : Claim7 := { stood := { row := treeBindsRow, standIns := [], harness := (true, "658ca73e495e4d77c531694c732199d760fa01aba8f6624b16a82278a5ac8651"), looks := false }, kinds := [], alts := [], laidByText := true, laidKinds := [.data], laidTests := true, laidLooks := .later }
def TreeBindsCardSaid : Prop := Claim7.holds Tryd.pinned (.plain (OpenSpec.ofChange treeBindsSpec)) treeBindsCard

/-- THE TIED CARD OF 'rubricklaw06.TreeRoots'. -/
def treeRootsCard : Claim7 := { stood := { row := treeRootsRow, standIns := [], harness := (true, "658ca73e495e4d77c531694c732199d760fa01aba8f6624b16a82278a5ac8651"), looks := false }, kinds := [], alts := [], laidByText := true, laidKinds := [.data], laidTests := true, laidLooks := .later }
def TreeRootsCardSaid : Prop := Claim7.holds Tryd.pinned (.plain (OpenSpec.ofChange treeRootsSpec)) treeRootsCard

/-- THE TIED CARD OF 'rubricklaw06.TreeHalves'. -/
def treeHalvesCard : Claim7 := { stood := { row := treeHalvesRow, standIns := [], harness := (true, "658ca73e495e4d77c531694c732199d760fa01aba8f6624b16a82278a5ac8651"), looks := false }, kinds := [], alts := [], laidByText := true, laidKinds := [.data], laidTests := true, laidLooks := .later }
def TreeHalvesCardSaid : Prop := Claim7.holds Tryd.pinned (.plain (OpenSpec.ofChange treeHalvesSpec)) treeHalvesCard

/-- THE TIED CARD OF 'rubricklaw06.TreeWhole'. -/
def treeWholeCard : Claim7 := { stood := { row := treeWholeRow, standIns := [], harness := (true, "658ca73e495e4d77c531694c732199d760fa01aba8f6624b16a82278a5ac8651"), looks := false }, kinds := [], alts := [], laidByText := true, laidKinds := [.data], laidTests := true, laidLooks := .later }
def TreeWholeCardSaid : Prop := Claim7.holds Tryd.pinned (.plain (OpenSpec.ofChange treeWholeSpec)) treeWholeCard

/-- THE TIED CARD OF 'rubricklaw09.PostWrites'. -/
def postWritesCard : Claim7 := { stood := { row := postWritesRow, standIns := [], harness := (true, "658ca73e495e4d77c531694c732199d760fa01aba8f6624b16a82278a5ac8651"), looks := false }, kinds := [], alts := [], laidByText := true, laidKinds := [.data], laidTests := true, laidLooks := .later }
def PostWritesCardSaid : Prop := Claim7.holds Tryd.pinned (.plain (OpenSpec.ofChange postWritesSpec)) postWritesCard

/-- THE SECOND FORM's CARD OF 'rubricklaw06.TreePaths'. -/
def treePathsUptoCard : Claim7 := { stood := { row := treePathsUptoRow, standIns := [], harness := (true, "658ca73e495e4d77c531694c732199d760fa01aba8f6624b16a82278a5ac8651"), looks := false }, kinds := [], alts := [], laidByText := true, laidKinds := [.data], laidTests := true, laidLooks := .later }
def TreePathsUptoCardSaid : Prop := Claim7.holds Tryd.pinned (.plain (OpenSpec.upto treePathsSpec)) treePathsUptoCard

/-- THE SECOND FORM's CARD OF 'rubricklaw06.TreeClimbs'. -/
def treeClimbsUptoCard : Claim7 := { stood := { row := treeClimbsUptoRow, standIns := [], harness := (true, "658ca73e495e4d77c531694c732199d760fa01aba8f6624b16a82278a5ac8651"), looks := false }, kinds := [], alts := [], laidByText := true, laidKinds := [.data], laidTests := true, laidLooks := .later }
def TreeClimbsUptoCardSaid : Prop := Claim7.holds Tryd.pinned (.plain (OpenSpec.upto treeClimbsSpec)) treeClimbsUptoCard

/-- THE SECOND FORM's CARD OF 'rubricklaw06.TreeBack'. -/
def treeBackUptoCard : Claim7 := { stood := { row := treeBackUptoRow, standIns := [], harness := (true, "658ca73e495e4d77c531694c732199d760fa01aba8f6624b16a82278a5ac8651"), looks := false }, kinds := [], alts := [], laidByText := true, laidKinds := [.data], laidTests := true, laidLooks := .later }
def TreeBackUptoCardSaid : Prop := Claim7.holds Tryd.pinned (.plain (OpenSpec.upto treeBackSpec)) treeBackUptoCard

/-- THE SECOND FORM's CARD OF 'rubricklaw06.TreeBinds'. -/
def treeBindsUptoCard : Claim7 := { stood := { row := treeBindsUptoRow, standIns := [], harness := (true, "658ca73e495e4d77c531694c732199d760fa01aba8f6624b16a82278a5ac8651"), looks := false }, kinds := [], alts := [], laidByText := true, laidKinds := [.data], laidTests := true, laidLooks := .later }
def TreeBindsUptoCardSaid : Prop := Claim7.holds Tryd.pinned (.plain (OpenSpec.upto treeBindsSpec)) treeBindsUptoCard

/-- THE SECOND FORM's CARD OF 'rubricklaw06.TreeRoots'. -/
def treeRootsUptoCard : Claim7 := { stood := { row := treeRootsUptoRow, standIns := [], harness := (true, "658ca73e495e4d77c531694c732199d760fa01aba8f6624b16a82278a5ac8651"), looks := false }, kinds := [], alts := [], laidByText := true, laidKinds := [.data], laidTests := true, laidLooks := .later }
def TreeRootsUptoCardSaid : Prop := Claim7.holds Tryd.pinned (.plain (OpenSpec.upto treeRootsSpec)) treeRootsUptoCard

/-- THE SECOND FORM's CARD OF 'rubricklaw06.TreeHalves'. -/
def treeHalvesUptoCard : Claim7 := { stood := { row := treeHalvesUptoRow, standIns := [], harness := (true, "658ca73e495e4d77c531694c732199d760fa01aba8f6624b16a82278a5ac8651"), looks := false }, kinds := [], alts := [], laidByText := true, laidKinds := [.data], laidTests := true, laidLooks := .later }
def TreeHalvesUptoCardSaid : Prop := Claim7.holds Tryd.pinned (.plain (OpenSpec.upto treeHalvesSpec)) treeHalvesUptoCard

/-- THE SECOND FORM's CARD OF 'rubricklaw06.TreeWhole'. -/
def treeWholeUptoCard : Claim7 := { stood := { row := treeWholeUptoRow, standIns := [], harness := (true, "658ca73e495e4d77c531694c732199d760fa01aba8f6624b16a82278a5ac8651"), looks := false }, kinds := [], alts := [], laidByText := true, laidKinds := [.data], laidTests := true, laidLooks := .later }
def TreeWholeUptoCardSaid : Prop := Claim7.holds Tryd.pinned (.plain (OpenSpec.upto treeWholeSpec)) treeWholeUptoCard

/-- THE SECOND FORM's CARD OF 'rubricklaw09.PostWrites'. -/
def postWritesUptoCard : Claim7 := { stood := { row := postWritesUptoRow, standIns := [], harness := (true, "658ca73e495e4d77c531694c732199d760fa01aba8f6624b16a82278a5ac8651"), looks := false }, kinds := [], alts := [], laidByText := true, laidKinds := [.data], laidTests := true, laidLooks := .later }
def PostWritesUptoCardSaid : Prop := Claim7.holds Tryd.pinned (.plain (OpenSpec.upto postWritesSpec)) postWritesUptoCard
end Rows
end Go.Proofs.YtgcfhgkhokljcaaDoor
