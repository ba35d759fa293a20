/-
  DERIVED. GIVEN WITH THE SEED: THE CARDS: each row of YteoaecbflhnblaaGreatDoorRows.lean that lists a variable, with what it lists TIED to the program's text (the seventh form; the later family's looks); each row that meets fmt, with fmt's text TOLD by the authors' own Lean function (tested against real Go, not proved from fmt's source: count such statements apart). THE CARD IS WHAT COUNTS. Prove the row's statement (the work); the ties are given (YteoaecbflhnblaaGreatDoorTie.lean); close each card by the builder's one call (the guide's Derived/Test/ToyasCard.lean, 'card_holds'). Laid BY PROGRAM, IN A SANDBOX (cutbox-door.mjs). By AI agents, Wed Nov 11 2026. No macro, syntax, notation, axiom, sorry.
-/
import Derived.Test.YteoaecbflhnblaaGreatDoorRows
import GoSem.ClaimSeven
namespace Go.Proofs.YteoaecbflhnblaaGreatDoor
namespace Rows

/-- THE TIED CARD OF 'paideialaw12.ClassesSay'. -/
def classesSayCard : Claim7 := { stood := { row := classesSayRow, standIns := [], harness := (true, "2547433b23199f7ab1c2d86d1593aa5edd65bb909fd063c0863a6225e4a056c4"), looks := true }, kinds := [], alts := [], laidByText := true, laidKinds := [.sentinel, .sentinel, .sentinel, .sentinel, .sentinel, .sentinel, .sentinel, .sentinel, .sentinel, .sentinel, .sentinel, .sentinel, .sentinel, .sentinel, .sentinel], laidTests := true, laidLooks := .later }
def ClassesSayCardSaid : Prop := Claim7.holds Tryz.pinned (.plain (OpenSpec.ofChange classesSaySpec)) classesSayCard

/-- THE TIED CARD OF 'paideialaw13.InstsRows'. -/
def instsRowsCard : Claim7 := { stood := { row := instsRowsRow, standIns := [], harness := (true, "2547433b23199f7ab1c2d86d1593aa5edd65bb909fd063c0863a6225e4a056c4"), looks := true }, kinds := [], alts := [], laidByText := true, laidKinds := [.sentinel, .sentinel, .sentinel, .sentinel, .sentinel, .sentinel, .sentinel, .sentinel, .sentinel, .sentinel, .sentinel, .sentinel, .sentinel, .sentinel, .sentinel], laidTests := true, laidLooks := .later }
def InstsRowsCardSaid : Prop := Claim7.holds Tryz.pinned (.plain (OpenSpec.ofChange instsRowsSpec)) instsRowsCard

/-- THE TIED CARD OF 'paideialaw13.InstsSay'. -/
def instsSayCard : Claim7 := { stood := { row := instsSayRow, standIns := [], harness := (true, "2547433b23199f7ab1c2d86d1593aa5edd65bb909fd063c0863a6225e4a056c4"), looks := true }, kinds := [], alts := [], laidByText := true, laidKinds := [.sentinel, .sentinel, .sentinel, .sentinel, .sentinel, .sentinel, .sentinel, .sentinel, .sentinel, .sentinel, .sentinel, .sentinel, .sentinel, .sentinel, .sentinel], laidTests := true, laidLooks := .later }
def InstsSayCardSaid : Prop := Claim7.holds Tryz.pinned (.plain (OpenSpec.ofChange instsSaySpec)) instsSayCard

/-- THE TIED CARD OF 'paideialaw13.InstsWrong'. -/
def instsWrongCard : Claim7 := { stood := { row := instsWrongRow, standIns := [], harness := (true, "2547433b23199f7ab1c2d86d1593aa5edd65bb909fd063c0863a6225e4a056c4"), looks := true }, kinds := [], alts := [], laidByText := true, laidKinds := [.sentinel, .sentinel, .sentinel, .sentinel, .sentinel, .sentinel, .sentinel, .sentinel, .sentinel, .sentinel, .sentinel, .sentinel, .sentinel, .sentinel, .sentinel], laidTests := true, laidLooks := .later }
def InstsWrongCardSaid : Prop := Claim7.holds Tryz.pinned (.plain (OpenSpec.ofChange instsWrongSpec)) instsWrongCard

/-- THE TIED CARD OF 'paideialaw18.CheckSound'. -/
def checkSoundCard : Claim7 := { stood := { row := checkSoundRow, standIns := [], harness := (true, "2547433b23199f7ab1c2d86d1593aa5edd65bb909fd063c0863a6225e4a056c4"), looks := true }, kinds := [], alts := [], laidByText := true, laidKinds := [.data, .data, .data, .sentinel, .sentinel, .sentinel, .sentinel, .sentinel, .sentinel, .sentinel, .sentinel, .sentinel, .sentinel, .sentinel, .sentinel, .sentinel, .sentinel, .sentinel], laidTests := true, laidLooks := .later }
def CheckSoundCardSaid : Prop := Claim7.holds Tryz.pinned (.plain (OpenSpec.ofChange checkSoundSpec)) checkSoundCard

/-- THE TIED CARD OF 'paideialaw18.CheckNames'. -/
def checkNamesCard : Claim7 := { stood := { row := checkNamesRow, standIns := [], harness := (true, "2547433b23199f7ab1c2d86d1593aa5edd65bb909fd063c0863a6225e4a056c4"), looks := true }, kinds := [], alts := [], laidByText := true, laidKinds := [.data, .data, .data, .sentinel, .sentinel, .sentinel], laidTests := true, laidLooks := .later }
def CheckNamesCardSaid : Prop := Claim7.holds Tryz.pinned (.plain (OpenSpec.ofChange checkNamesSpec)) checkNamesCard

/-- THE TIED CARD OF 'paideialaw18.CheckErrors'. -/
def checkErrorsCard : Claim7 := { stood := { row := checkErrorsRow, standIns := [], harness := (true, "2547433b23199f7ab1c2d86d1593aa5edd65bb909fd063c0863a6225e4a056c4"), looks := true }, kinds := [], alts := [], laidByText := true, laidKinds := [.data, .data, .data, .sentinel, .sentinel, .sentinel, .sentinel, .sentinel, .sentinel, .sentinel, .sentinel, .sentinel, .sentinel, .sentinel, .sentinel, .sentinel, .sentinel, .sentinel], laidTests := true, laidLooks := .later }
def CheckErrorsCardSaid : Prop := Claim7.holds Tryz.pinned (.plain (OpenSpec.ofChange checkErrorsSpec)) checkErrorsCard

/-- THE TIED CARD OF 'paideialaw18.CheckLets'. -/
def checkLetsCard : Claim7 := { stood := { row := checkLetsRow, standIns := [], harness := (true, "2547433b23199f7ab1c2d86d1593aa5edd65bb909fd063c0863a6225e4a056c4"), looks := true }, kinds := [], alts := [], laidByText := true, laidKinds := [.data, .data, .data, .sentinel, .sentinel, .sentinel], laidTests := true, laidLooks := .later }
def CheckLetsCardSaid : Prop := Claim7.holds Tryz.pinned (.plain (OpenSpec.ofChange checkLetsSpec)) checkLetsCard

/-- THE SECOND FORM's CARD OF 'paideialaw12.ClassesSay'. -/
def classesSayUptoCard : Claim7 := { stood := { row := classesSayUptoRow, standIns := [], harness := (true, "2547433b23199f7ab1c2d86d1593aa5edd65bb909fd063c0863a6225e4a056c4"), looks := true }, kinds := [], alts := [], laidByText := true, laidKinds := [.sentinel, .sentinel, .sentinel, .sentinel, .sentinel, .sentinel, .sentinel, .sentinel, .sentinel, .sentinel, .sentinel, .sentinel, .sentinel, .sentinel, .sentinel], laidTests := true, laidLooks := .later }
def ClassesSayUptoCardSaid : Prop := Claim7.holds Tryz.pinned (.plain (OpenSpec.upto classesSaySpec)) classesSayUptoCard

/-- THE SECOND FORM's CARD OF 'paideialaw13.InstsRows'. -/
def instsRowsUptoCard : Claim7 := { stood := { row := instsRowsUptoRow, standIns := [], harness := (true, "2547433b23199f7ab1c2d86d1593aa5edd65bb909fd063c0863a6225e4a056c4"), looks := true }, kinds := [], alts := [], laidByText := true, laidKinds := [.sentinel, .sentinel, .sentinel, .sentinel, .sentinel, .sentinel, .sentinel, .sentinel, .sentinel, .sentinel, .sentinel, .sentinel, .sentinel, .sentinel, .sentinel], laidTests := true, laidLooks := .later }
def InstsRowsUptoCardSaid : Prop := Claim7.holds Tryz.pinned (.plain (OpenSpec.upto instsRowsSpec)) instsRowsUptoCard

/-- THE SECOND FORM's CARD OF 'paideialaw13.InstsSay'. -/
def instsSayUptoCard : Claim7 := { stood := { row := instsSayUptoRow, standIns := [], harness := (true, "2547433b23199f7ab1c2d86d1593aa5edd65bb909fd063c0863a6225e4a056c4"), looks := true }, kinds := [], alts := [], laidByText := true, laidKinds := [.sentinel, .sentinel, .sentinel, .sentinel, .sentinel, .sentinel, .sentinel, .sentinel, .sentinel, .sentinel, .sentinel, .sentinel, .sentinel, .sentinel, .sentinel], laidTests := true, laidLooks := .later }
def InstsSayUptoCardSaid : Prop := Claim7.holds Tryz.pinned (.plain (OpenSpec.upto instsSaySpec)) instsSayUptoCard

/-- THE SECOND FORM's CARD OF 'paideialaw13.InstsWrong'. -/
def instsWrongUptoCard : Claim7 := { stood := { row := instsWrongUptoRow, standIns := [], harness := (true, "2547433b23199f7ab1c2d86d1593aa5edd65bb909fd063c0863a6225e4a056c4"), looks := true }, kinds := [], alts := [], laidByText := true, laidKinds := [.sentinel, .sentinel, .sentinel, .sentinel, .sentinel, .sentinel, .sentinel, .sentinel, .sentinel, .sentinel, .sentinel, .sentinel, .sentinel, .sentinel, .sentinel], laidTests := true, laidLooks := .later }
def InstsWrongUptoCardSaid : Prop := Claim7.holds Tryz.pinned (.plain (OpenSpec.upto instsWrongSpec)) instsWrongUptoCard

/-- THE SECOND FORM's CARD OF 'paideialaw18.CheckSound'. -/
def checkSoundUptoCard : Claim7 := { stood := { row := checkSoundUptoRow, standIns := [], harness := (true, "2547433b23199f7ab1c2d86d1593aa5edd65bb909fd063c0863a6225e4a056c4"), looks := true }, kinds := [], alts := [], laidByText := true, laidKinds := [.data, .data, .data, .sentinel, .sentinel, .sentinel, .sentinel, .sentinel, .sentinel, .sentinel, .sentinel, .sentinel, .sentinel, .sentinel, .sentinel, .sentinel, .sentinel, .sentinel], laidTests := true, laidLooks := .later }
def CheckSoundUptoCardSaid : Prop := Claim7.holds Tryz.pinned (.plain (OpenSpec.upto checkSoundSpec)) checkSoundUptoCard

/-- THE SECOND FORM's CARD OF 'paideialaw18.CheckNames'. -/
def checkNamesUptoCard : Claim7 := { stood := { row := checkNamesUptoRow, standIns := [], harness := (true, "2547433b23199f7ab1c2d86d1593aa5edd65bb909fd063c0863a6225e4a056c4"), looks := true }, kinds := [], alts := [], laidByText := true, laidKinds := [.data, .data, .data, .sentinel, .sentinel, .sentinel], laidTests := true, laidLooks := .later }
def CheckNamesUptoCardSaid : Prop := Claim7.holds Tryz.pinned (.plain (OpenSpec.upto checkNamesSpec)) checkNamesUptoCard

/-- THE SECOND FORM's CARD OF 'paideialaw18.CheckErrors'. -/
def checkErrorsUptoCard : Claim7 := { stood := { row := checkErrorsUptoRow, standIns := [], harness := (true, "2547433b23199f7ab1c2d86d1593aa5edd65bb909fd063c0863a6225e4a056c4"), looks := true }, kinds := [], alts := [], laidByText := true, laidKinds := [.data, .data, .data, .sentinel, .sentinel, .sentinel, .sentinel, .sentinel, .sentinel, .sentinel, .sentinel, .sentinel, .sentinel, .sentinel, .sentinel, .sentinel, .sentinel, .sentinel], laidTests := true, laidLooks := .later }
def CheckErrorsUptoCardSaid : Prop := Claim7.holds Tryz.pinned (.plain (OpenSpec.upto checkErrorsSpec)) checkErrorsUptoCard

/-- THE SECOND FORM's CARD OF 'paideialaw18.CheckLets'. -/
def checkLetsUptoCard : Claim7 := { stood := { row := checkLetsUptoRow, standIns := [], harness := (true, "2547433b23199f7ab1c2d86d1593aa5edd65bb909fd063c0863a6225e4a056c4"), looks := true }, kinds := [], alts := [], laidByText := true, laidKinds := [.data, .data, .data, .sentinel, .sentinel, .sentinel], laidTests := true, laidLooks := .later }
def CheckLetsUptoCardSaid : Prop := Claim7.holds Tryz.pinned (.plain (OpenSpec.upto checkLetsSpec)) checkLetsUptoCard
end Rows
end Go.Proofs.YteoaecbflhnblaaGreatDoor
