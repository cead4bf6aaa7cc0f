/-
  DERIVED. GIVEN WITH THE SEED: THE CARDS: each row of YtphbemkdhneklaaDoorRows.lean that lists a variable, with what it lists TIED to the program's text (the seventh form; the later family's looks); each row that meets fmt, with fmt's text TOLD by the authors' own Lean function (tested against real Go, not proved from fmt's source: count such statements apart). THE CARD IS WHAT COUNTS. Prove the row's statement (the work); the ties are given (YtphbemkdhneklaaDoorTie.lean); close each card by the builder's one call (the guide's Derived/Test/ToyasCard.lean, 'card_holds'). Laid BY PROGRAM, IN A SANDBOX (cutbox-door.mjs). By AI agents, Wed Nov 11 2026. No macro, syntax, notation, axiom, sorry.
-/
import Derived.Test.YtphbemkdhneklaaDoorRows
import GoSem.ClaimSeven
namespace Go.Proofs.YtphbemkdhneklaaDoor
namespace Rows

/-- THE TIED CARD OF 'epitomelaw05.NormalIs'. -/
def normalIsCard : Claim7 := { stood := { row := normalIsRow, standIns := [], harness := (true, "b59fba76812983a2edbfeb7dc69721ef72231d0e5408923366ca0978bc32635f"), looks := false }, kinds := [], alts := [], laidByText := true, laidKinds := [.data, .data, .pinned], laidTests := true, laidLooks := .later }
def NormalIsCardSaid : Prop := Claim7.holds Tryd.pinned (.plain (OpenSpec.ofChange normalIsSpec)) normalIsCard

/-- THE TIED CARD OF 'epitomelaw08.PlaceAll'. -/
def placeAllCard : Claim7 := { stood := { row := placeAllRow, standIns := [], harness := (true, "b59fba76812983a2edbfeb7dc69721ef72231d0e5408923366ca0978bc32635f"), looks := false }, kinds := [], alts := [], laidByText := true, laidKinds := [.data, .data, .pinned], laidTests := true, laidLooks := .later }
def PlaceAllCardSaid : Prop := Claim7.holds Tryd.pinned (.plain (OpenSpec.ofChange placeAllSpec)) placeAllCard

/-- THE TIED CARD OF 'epitomelaw08.PlaceLeast'. -/
def placeLeastCard : Claim7 := { stood := { row := placeLeastRow, standIns := [], harness := (true, "b59fba76812983a2edbfeb7dc69721ef72231d0e5408923366ca0978bc32635f"), looks := false }, kinds := [], alts := [], laidByText := true, laidKinds := [.data, .data, .pinned], laidTests := true, laidLooks := .later }
def PlaceLeastCardSaid : Prop := Claim7.holds Tryd.pinned (.plain (OpenSpec.ofChange placeLeastSpec)) placeLeastCard

/-- THE TIED CARD OF 'epitomelaw08.PlaceGaps'. -/
def placeGapsCard : Claim7 := { stood := { row := placeGapsRow, standIns := [], harness := (true, "b59fba76812983a2edbfeb7dc69721ef72231d0e5408923366ca0978bc32635f"), looks := false }, kinds := [], alts := [], laidByText := true, laidKinds := [.data, .data, .pinned], laidTests := true, laidLooks := .later }
def PlaceGapsCardSaid : Prop := Claim7.holds Tryd.pinned (.plain (OpenSpec.ofChange placeGapsSpec)) placeGapsCard

/-- THE TIED CARD OF 'epitomelaw08.PlaceNormal'. -/
def placeNormalCard : Claim7 := { stood := { row := placeNormalRow, standIns := [], harness := (true, "b59fba76812983a2edbfeb7dc69721ef72231d0e5408923366ca0978bc32635f"), looks := false }, kinds := [], alts := [], laidByText := true, laidKinds := [.data, .data, .pinned], laidTests := true, laidLooks := .later }
def PlaceNormalCardSaid : Prop := Claim7.holds Tryd.pinned (.plain (OpenSpec.ofChange placeNormalSpec)) placeNormalCard

/-- THE TIED CARD OF 'epitomelaw09.ComposeAll'. -/
def composeAllCard : Claim7 := { stood := { row := composeAllRow, standIns := [], harness := (true, "b59fba76812983a2edbfeb7dc69721ef72231d0e5408923366ca0978bc32635f"), looks := false }, kinds := [], alts := [], laidByText := true, laidKinds := [.data, .data, .pinned], laidTests := true, laidLooks := .later }
def ComposeAllCardSaid : Prop := Claim7.holds Tryd.pinned (.plain (OpenSpec.ofChange composeAllSpec)) composeAllCard

/-- THE TIED CARD OF 'epitomelaw09.ComposeThree'. -/
def composeThreeCard : Claim7 := { stood := { row := composeThreeRow, standIns := [], harness := (true, "b59fba76812983a2edbfeb7dc69721ef72231d0e5408923366ca0978bc32635f"), looks := false }, kinds := [], alts := [], laidByText := true, laidKinds := [.data, .data, .pinned], laidTests := true, laidLooks := .later }
def ComposeThreeCardSaid : Prop := Claim7.holds Tryd.pinned (.plain (OpenSpec.ofChange composeThreeSpec)) composeThreeCard

/-- THE TIED CARD OF 'epitomelaw09.ComposeKeeps'. -/
def composeKeepsCard : Claim7 := { stood := { row := composeKeepsRow, standIns := [], harness := (true, "b59fba76812983a2edbfeb7dc69721ef72231d0e5408923366ca0978bc32635f"), looks := false }, kinds := [], alts := [], laidByText := true, laidKinds := [.data, .data, .pinned], laidTests := true, laidLooks := .later }
def ComposeKeepsCardSaid : Prop := Claim7.holds Tryd.pinned (.plain (OpenSpec.ofChange composeKeepsSpec)) composeKeepsCard

/-- THE TIED CARD OF 'epitomelaw09.ComposeEnds'. -/
def composeEndsCard : Claim7 := { stood := { row := composeEndsRow, standIns := [], harness := (true, "b59fba76812983a2edbfeb7dc69721ef72231d0e5408923366ca0978bc32635f"), looks := false }, kinds := [], alts := [], laidByText := true, laidKinds := [.data, .data, .pinned], laidTests := true, laidLooks := .later }
def ComposeEndsCardSaid : Prop := Claim7.holds Tryd.pinned (.plain (OpenSpec.ofChange composeEndsSpec)) composeEndsCard

/-- THE TIED CARD OF 'epitomelaw09.ComposeDoes'. -/
def composeDoesCard : Claim7 := { stood := { row := composeDoesRow, standIns := [], harness := (true, "b59fba76812983a2edbfeb7dc69721ef72231d0e5408923366ca0978bc32635f"), looks := false }, kinds := [], alts := [], laidByText := true, laidKinds := [.data, .data, .pinned], laidTests := true, laidLooks := .later }
def ComposeDoesCardSaid : Prop := Claim7.holds Tryd.pinned (.plain (OpenSpec.ofChange composeDoesSpec)) composeDoesCard

/-- THE TIED CARD OF 'epitomelaw09.ComposeThrough'. -/
def composeThroughCard : Claim7 := { stood := { row := composeThroughRow, standIns := [], harness := (true, "b59fba76812983a2edbfeb7dc69721ef72231d0e5408923366ca0978bc32635f"), looks := false }, kinds := [], alts := [], laidByText := true, laidKinds := [.data, .data, .pinned], laidTests := true, laidLooks := .later }
def ComposeThroughCardSaid : Prop := Claim7.holds Tryd.pinned (.plain (OpenSpec.ofChange composeThroughSpec)) composeThroughCard

/-- THE TIED CARD OF 'epitomelaw09.ComposeGaps'. -/
def composeGapsCard : Claim7 := { stood := { row := composeGapsRow, standIns := [], harness := (true, "b59fba76812983a2edbfeb7dc69721ef72231d0e5408923366ca0978bc32635f"), looks := false }, kinds := [], alts := [], laidByText := true, laidKinds := [.data, .data, .pinned], laidTests := true, laidLooks := .later }
def ComposeGapsCardSaid : Prop := Claim7.holds Tryd.pinned (.plain (OpenSpec.ofChange composeGapsSpec)) composeGapsCard

/-- THE SECOND FORM's CARD OF 'epitomelaw05.NormalIs'. -/
def normalIsUptoCard : Claim7 := { stood := { row := normalIsUptoRow, standIns := [], harness := (true, "b59fba76812983a2edbfeb7dc69721ef72231d0e5408923366ca0978bc32635f"), looks := false }, kinds := [], alts := [], laidByText := true, laidKinds := [.data, .data, .pinned], laidTests := true, laidLooks := .later }
def NormalIsUptoCardSaid : Prop := Claim7.holds Tryd.pinned (.plain (OpenSpec.upto normalIsSpec)) normalIsUptoCard

/-- THE SECOND FORM's CARD OF 'epitomelaw08.PlaceAll'. -/
def placeAllUptoCard : Claim7 := { stood := { row := placeAllUptoRow, standIns := [], harness := (true, "b59fba76812983a2edbfeb7dc69721ef72231d0e5408923366ca0978bc32635f"), looks := false }, kinds := [], alts := [], laidByText := true, laidKinds := [.data, .data, .pinned], laidTests := true, laidLooks := .later }
def PlaceAllUptoCardSaid : Prop := Claim7.holds Tryd.pinned (.plain (OpenSpec.upto placeAllSpec)) placeAllUptoCard

/-- THE SECOND FORM's CARD OF 'epitomelaw08.PlaceLeast'. -/
def placeLeastUptoCard : Claim7 := { stood := { row := placeLeastUptoRow, standIns := [], harness := (true, "b59fba76812983a2edbfeb7dc69721ef72231d0e5408923366ca0978bc32635f"), looks := false }, kinds := [], alts := [], laidByText := true, laidKinds := [.data, .data, .pinned], laidTests := true, laidLooks := .later }
def PlaceLeastUptoCardSaid : Prop := Claim7.holds Tryd.pinned (.plain (OpenSpec.upto placeLeastSpec)) placeLeastUptoCard

/-- THE SECOND FORM's CARD OF 'epitomelaw08.PlaceGaps'. -/
def placeGapsUptoCard : Claim7 := { stood := { row := placeGapsUptoRow, standIns := [], harness := (true, "b59fba76812983a2edbfeb7dc69721ef72231d0e5408923366ca0978bc32635f"), looks := false }, kinds := [], alts := [], laidByText := true, laidKinds := [.data, .data, .pinned], laidTests := true, laidLooks := .later }
def PlaceGapsUptoCardSaid : Prop := Claim7.holds Tryd.pinned (.plain (OpenSpec.upto placeGapsSpec)) placeGapsUptoCard

/-- THE SECOND FORM's CARD OF 'epitomelaw08.PlaceNormal'. -/
def placeNormalUptoCard : Claim7 := { stood := { row := placeNormalUptoRow, standIns := [], harness := (true, "b59fba76812983a2edbfeb7dc69721ef72231d0e5408923366ca0978bc32635f"), looks := false }, kinds := [], alts := [], laidByText := true, laidKinds := [.data, .data, .pinned], laidTests := true, laidLooks := .later }
def PlaceNormalUptoCardSaid : Prop := Claim7.holds Tryd.pinned (.plain (OpenSpec.upto placeNormalSpec)) placeNormalUptoCard

/-- THE SECOND FORM's CARD OF 'epitomelaw09.ComposeAll'. -/
def composeAllUptoCard : Claim7 := { stood := { row := composeAllUptoRow, standIns := [], harness := (true, "b59fba76812983a2edbfeb7dc69721ef72231d0e5408923366ca0978bc32635f"), looks := false }, kinds := [], alts := [], laidByText := true, laidKinds := [.data, .data, .pinned], laidTests := true, laidLooks := .later }
def ComposeAllUptoCardSaid : Prop := Claim7.holds Tryd.pinned (.plain (OpenSpec.upto composeAllSpec)) composeAllUptoCard

/-- THE SECOND FORM's CARD OF 'epitomelaw09.ComposeThree'. -/
def composeThreeUptoCard : Claim7 := { stood := { row := composeThreeUptoRow, standIns := [], harness := (true, "b59fba76812983a2edbfeb7dc69721ef72231d0e5408923366ca0978bc32635f"), looks := false }, kinds := [], alts := [], laidByText := true, laidKinds := [.data, .data, .pinned], laidTests := true, laidLooks := .later }
def ComposeThreeUptoCardSaid : Prop := Claim7.holds Tryd.pinned (.plain (OpenSpec.upto composeThreeSpec)) composeThreeUptoCard

/-- THE SECOND FORM's CARD OF 'epitomelaw09.ComposeKeeps'. -/
def composeKeepsUptoCard : Claim7 := { stood := { row := composeKeepsUptoRow, standIns := [], harness := (true, "b59fba76812983a2edbfeb7dc69721ef72231d0e5408923366ca0978bc32635f"), looks := false }, kinds := [], alts := [], laidByText := true, laidKinds := [.data, .data, .pinned], laidTests := true, laidLooks := .later }
def ComposeKeepsUptoCardSaid : Prop := Claim7.holds Tryd.pinned (.plain (OpenSpec.upto composeKeepsSpec)) composeKeepsUptoCard

/-- THE SECOND FORM's CARD OF 'epitomelaw09.ComposeEnds'. -/
def composeEndsUptoCard : Claim7 := { stood := { row := composeEndsUptoRow, standIns := [], harness := (true, "b59fba76812983a2edbfeb7dc69721ef72231d0e5408923366ca0978bc32635f"), looks := false }, kinds := [], alts := [], laidByText := true, laidKinds := [.data, .data, .pinned], laidTests := true, laidLooks := .later }
def ComposeEndsUptoCardSaid : Prop := Claim7.holds Tryd.pinned (.plain (OpenSpec.upto composeEndsSpec)) composeEndsUptoCard

/-- THE SECOND FORM's CARD OF 'epitomelaw09.ComposeDoes'. -/
def composeDoesUptoCard : Claim7 := { stood := { row := composeDoesUptoRow, standIns := [], harness := (true, "b59fba76812983a2edbfeb7dc69721ef72231d0e5408923366ca0978bc32635f"), looks := false }, kinds := [], alts := [], laidByText := true, laidKinds := [.data, .data, .pinned], laidTests := true, laidLooks := .later }
def ComposeDoesUptoCardSaid : Prop := Claim7.holds Tryd.pinned (.plain (OpenSpec.upto composeDoesSpec)) composeDoesUptoCard

/-- THE SECOND FORM's CARD OF 'epitomelaw09.ComposeThrough'. -/
def composeThroughUptoCard : Claim7 := { stood := { row := composeThroughUptoRow, standIns := [], harness := (true, "b59fba76812983a2edbfeb7dc69721ef72231d0e5408923366ca0978bc32635f"), looks := false }, kinds := [], alts := [], laidByText := true, laidKinds := [.data, .data, .pinned], laidTests := true, laidLooks := .later }
def ComposeThroughUptoCardSaid : Prop := Claim7.holds Tryd.pinned (.plain (OpenSpec.upto composeThroughSpec)) composeThroughUptoCard

/-- THE SECOND FORM's CARD OF 'epitomelaw09.ComposeGaps'. -/
def composeGapsUptoCard : Claim7 := { stood := { row := composeGapsUptoRow, standIns := [], harness := (true, "b59fba76812983a2edbfeb7dc69721ef72231d0e5408923366ca0978bc32635f"), looks := false }, kinds := [], alts := [], laidByText := true, laidKinds := [.data, .data, .pinned], laidTests := true, laidLooks := .later }
def ComposeGapsUptoCardSaid : Prop := Claim7.holds Tryd.pinned (.plain (OpenSpec.upto composeGapsSpec)) composeGapsUptoCard
end Rows
end Go.Proofs.YtphbemkdhneklaaDoor
