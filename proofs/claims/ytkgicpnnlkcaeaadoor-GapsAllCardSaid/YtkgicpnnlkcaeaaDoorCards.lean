/-
  DERIVED. GIVEN WITH THE SEED: THE CARDS: each row of YtkgicpnnlkcaeaaDoorRows.lean that lists a variable, with what it lists TIED to the program's text (the seventh form; the later family's looks); each row that meets fmt, with fmt's text TOLD by the authors' own Lean function (tested against real Go, not proved from fmt's source: count such statements apart). THE CARD IS WHAT COUNTS. Prove the row's statement (the work); the ties are given (YtkgicpnnlkcaeaaDoorTie.lean); close each card by the builder's one call (the guide's Derived/Test/ToyasCard.lean, 'card_holds'). Laid BY PROGRAM, IN A SANDBOX (cutbox-door.mjs). By AI agents, Wed Nov 11 2026. No macro, syntax, notation, axiom, sorry.
-/
import Derived.Test.YtkgicpnnlkcaeaaDoorRows
import GoSem.ClaimSeven
namespace Go.Proofs.YtkgicpnnlkcaeaaDoor
namespace Rows

/-- THE TIED CARD OF 'epitomelaw06.GapsOne'. -/
def gapsOneCard : Claim7 := { stood := { row := gapsOneRow, standIns := [], harness := (true, "8ebf4b5b935d62fb34083f0ec33522bf7d163fe9f2247210fb781f7bf7557387"), looks := false }, kinds := [], alts := [], laidByText := true, laidKinds := [.data, .data, .pinned], laidTests := true, laidLooks := .later }
def GapsOneCardSaid : Prop := Claim7.holds Tryd.pinned (.plain (OpenSpec.ofChange gapsOneSpec)) gapsOneCard

/-- THE TIED CARD OF 'epitomelaw06.GapsJoin'. -/
def gapsJoinCard : Claim7 := { stood := { row := gapsJoinRow, standIns := [], harness := (true, "8ebf4b5b935d62fb34083f0ec33522bf7d163fe9f2247210fb781f7bf7557387"), looks := false }, kinds := [], alts := [], laidByText := true, laidKinds := [.data, .data, .pinned], laidTests := true, laidLooks := .later }
def GapsJoinCardSaid : Prop := Claim7.holds Tryd.pinned (.plain (OpenSpec.ofChange gapsJoinSpec)) gapsJoinCard

/-- THE TIED CARD OF 'epitomelaw07.ApplyAll'. -/
def applyAllCard : Claim7 := { stood := { row := applyAllRow, standIns := [], harness := (true, "8ebf4b5b935d62fb34083f0ec33522bf7d163fe9f2247210fb781f7bf7557387"), looks := false }, kinds := [], alts := [], laidByText := true, laidKinds := [.data, .data, .pinned], laidTests := true, laidLooks := .later }
def ApplyAllCardSaid : Prop := Claim7.holds Tryd.pinned (.plain (OpenSpec.ofChange applyAllSpec)) applyAllCard

/-- THE TIED CARD OF 'epitomelaw07.ApplyRow'. -/
def applyRowCard : Claim7 := { stood := { row := applyRowRow, standIns := [], harness := (true, "8ebf4b5b935d62fb34083f0ec33522bf7d163fe9f2247210fb781f7bf7557387"), looks := false }, kinds := [], alts := [], laidByText := true, laidKinds := [.data, .data, .pinned], laidTests := true, laidLooks := .later }
def ApplyRowCardSaid : Prop := Claim7.holds Tryd.pinned (.plain (OpenSpec.ofChange applyRowSpec)) applyRowCard

/-- THE TIED CARD OF 'epitomelaw07.ApplyParts'. -/
def applyPartsCard : Claim7 := { stood := { row := applyPartsRow, standIns := [], harness := (true, "8ebf4b5b935d62fb34083f0ec33522bf7d163fe9f2247210fb781f7bf7557387"), looks := false }, kinds := [], alts := [], laidByText := true, laidKinds := [.data, .data, .pinned], laidTests := true, laidLooks := .later }
def ApplyPartsCardSaid : Prop := Claim7.holds Tryd.pinned (.plain (OpenSpec.ofChange applyPartsSpec)) applyPartsCard

/-- THE TIED CARD OF 'epitomelaw06.GapsAll'. -/
def gapsAllCard : Claim7 := { stood := { row := gapsAllRow, standIns := [], harness := (true, "8ebf4b5b935d62fb34083f0ec33522bf7d163fe9f2247210fb781f7bf7557387"), looks := false }, kinds := [], alts := [], laidByText := true, laidKinds := [.data, .data, .pinned], laidTests := true, laidLooks := .later }
def GapsAllCardSaid : Prop := Claim7.holds Tryd.pinned (.plain (OpenSpec.ofChange gapsAllSpec)) gapsAllCard

/-- THE TIED CARD OF 'epitomelaw06.GapsLeast'. -/
def gapsLeastCard : Claim7 := { stood := { row := gapsLeastRow, standIns := [], harness := (true, "8ebf4b5b935d62fb34083f0ec33522bf7d163fe9f2247210fb781f7bf7557387"), looks := false }, kinds := [], alts := [], laidByText := true, laidKinds := [.data, .data, .pinned], laidTests := true, laidLooks := .later }
def GapsLeastCardSaid : Prop := Claim7.holds Tryd.pinned (.plain (OpenSpec.ofChange gapsLeastSpec)) gapsLeastCard

/-- THE TIED CARD OF 'epitomelaw07.ApplyKeeps'. -/
def applyKeepsCard : Claim7 := { stood := { row := applyKeepsRow, standIns := [], harness := (true, "8ebf4b5b935d62fb34083f0ec33522bf7d163fe9f2247210fb781f7bf7557387"), looks := false }, kinds := [], alts := [], laidByText := true, laidKinds := [.data, .data, .pinned], laidTests := true, laidLooks := .later }
def ApplyKeepsCardSaid : Prop := Claim7.holds Tryd.pinned (.plain (OpenSpec.ofChange applyKeepsSpec)) applyKeepsCard

/-- THE TIED CARD OF 'epitomelaw06.GapsBack'. -/
def gapsBackCard : Claim7 := { stood := { row := gapsBackRow, standIns := [], harness := (true, "8ebf4b5b935d62fb34083f0ec33522bf7d163fe9f2247210fb781f7bf7557387"), looks := false }, kinds := [], alts := [], laidByText := true, laidKinds := [.data, .data, .pinned], laidTests := true, laidLooks := .later }
def GapsBackCardSaid : Prop := Claim7.holds Tryd.pinned (.plain (OpenSpec.ofChange gapsBackSpec)) gapsBackCard

/-- THE TIED CARD OF 'epitomelaw07.ApplyPlaces'. -/
def applyPlacesCard : Claim7 := { stood := { row := applyPlacesRow, standIns := [], harness := (true, "8ebf4b5b935d62fb34083f0ec33522bf7d163fe9f2247210fb781f7bf7557387"), looks := false }, kinds := [], alts := [], laidByText := true, laidKinds := [.data, .data, .pinned], laidTests := true, laidLooks := .later }
def ApplyPlacesCardSaid : Prop := Claim7.holds Tryd.pinned (.plain (OpenSpec.ofChange applyPlacesSpec)) applyPlacesCard

/-- THE TIED CARD OF 'epitomelaw06.GapsNormal'. -/
def gapsNormalCard : Claim7 := { stood := { row := gapsNormalRow, standIns := [], harness := (true, "8ebf4b5b935d62fb34083f0ec33522bf7d163fe9f2247210fb781f7bf7557387"), looks := false }, kinds := [], alts := [], laidByText := true, laidKinds := [.data, .data, .pinned], laidTests := true, laidLooks := .later }
def GapsNormalCardSaid : Prop := Claim7.holds Tryd.pinned (.plain (OpenSpec.ofChange gapsNormalSpec)) gapsNormalCard

/-- THE TIED CARD OF 'epitomelaw07.ApplyNormal'. -/
def applyNormalCard : Claim7 := { stood := { row := applyNormalRow, standIns := [], harness := (true, "8ebf4b5b935d62fb34083f0ec33522bf7d163fe9f2247210fb781f7bf7557387"), looks := false }, kinds := [], alts := [], laidByText := true, laidKinds := [.data, .data, .pinned], laidTests := true, laidLooks := .later }
def ApplyNormalCardSaid : Prop := Claim7.holds Tryd.pinned (.plain (OpenSpec.ofChange applyNormalSpec)) applyNormalCard

/-- THE SECOND FORM's CARD OF 'epitomelaw06.GapsOne'. -/
def gapsOneUptoCard : Claim7 := { stood := { row := gapsOneUptoRow, standIns := [], harness := (true, "8ebf4b5b935d62fb34083f0ec33522bf7d163fe9f2247210fb781f7bf7557387"), looks := false }, kinds := [], alts := [], laidByText := true, laidKinds := [.data, .data, .pinned], laidTests := true, laidLooks := .later }
def GapsOneUptoCardSaid : Prop := Claim7.holds Tryd.pinned (.plain (OpenSpec.upto gapsOneSpec)) gapsOneUptoCard

/-- THE SECOND FORM's CARD OF 'epitomelaw06.GapsJoin'. -/
def gapsJoinUptoCard : Claim7 := { stood := { row := gapsJoinUptoRow, standIns := [], harness := (true, "8ebf4b5b935d62fb34083f0ec33522bf7d163fe9f2247210fb781f7bf7557387"), looks := false }, kinds := [], alts := [], laidByText := true, laidKinds := [.data, .data, .pinned], laidTests := true, laidLooks := .later }
def GapsJoinUptoCardSaid : Prop := Claim7.holds Tryd.pinned (.plain (OpenSpec.upto gapsJoinSpec)) gapsJoinUptoCard

/-- THE SECOND FORM's CARD OF 'epitomelaw07.ApplyAll'. -/
def applyAllUptoCard : Claim7 := { stood := { row := applyAllUptoRow, standIns := [], harness := (true, "8ebf4b5b935d62fb34083f0ec33522bf7d163fe9f2247210fb781f7bf7557387"), looks := false }, kinds := [], alts := [], laidByText := true, laidKinds := [.data, .data, .pinned], laidTests := true, laidLooks := .later }
def ApplyAllUptoCardSaid : Prop := Claim7.holds Tryd.pinned (.plain (OpenSpec.upto applyAllSpec)) applyAllUptoCard

/-- THE SECOND FORM's CARD OF 'epitomelaw07.ApplyRow'. -/
def applyRowUptoCard : Claim7 := { stood := { row := applyRowUptoRow, standIns := [], harness := (true, "8ebf4b5b935d62fb34083f0ec33522bf7d163fe9f2247210fb781f7bf7557387"), looks := false }, kinds := [], alts := [], laidByText := true, laidKinds := [.data, .data, .pinned], laidTests := true, laidLooks := .later }
def ApplyRowUptoCardSaid : Prop := Claim7.holds Tryd.pinned (.plain (OpenSpec.upto applyRowSpec)) applyRowUptoCard

/-- THE SECOND FORM's CARD OF 'epitomelaw07.ApplyParts'. -/
def applyPartsUptoCard : Claim7 := { stood := { row := applyPartsUptoRow, standIns := [], harness := (true, "8ebf4b5b935d62fb34083f0ec33522bf7d163fe9f2247210fb781f7bf7557387"), looks := false }, kinds := [], alts := [], laidByText := true, laidKinds := [.data, .data, .pinned], laidTests := true, laidLooks := .later }
def ApplyPartsUptoCardSaid : Prop := Claim7.holds Tryd.pinned (.plain (OpenSpec.upto applyPartsSpec)) applyPartsUptoCard

/-- THE SECOND FORM's CARD OF 'epitomelaw06.GapsAll'. -/
def gapsAllUptoCard : Claim7 := { stood := { row := gapsAllUptoRow, standIns := [], harness := (true, "8ebf4b5b935d62fb34083f0ec33522bf7d163fe9f2247210fb781f7bf7557387"), looks := false }, kinds := [], alts := [], laidByText := true, laidKinds := [.data, .data, .pinned], laidTests := true, laidLooks := .later }
def GapsAllUptoCardSaid : Prop := Claim7.holds Tryd.pinned (.plain (OpenSpec.upto gapsAllSpec)) gapsAllUptoCard

/-- THE SECOND FORM's CARD OF 'epitomelaw06.GapsLeast'. -/
def gapsLeastUptoCard : Claim7 := { stood := { row := gapsLeastUptoRow, standIns := [], harness := (true, "8ebf4b5b935d62fb34083f0ec33522bf7d163fe9f2247210fb781f7bf7557387"), looks := false }, kinds := [], alts := [], laidByText := true, laidKinds := [.data, .data, .pinned], laidTests := true, laidLooks := .later }
def GapsLeastUptoCardSaid : Prop := Claim7.holds Tryd.pinned (.plain (OpenSpec.upto gapsLeastSpec)) gapsLeastUptoCard

/-- THE SECOND FORM's CARD OF 'epitomelaw07.ApplyKeeps'. -/
def applyKeepsUptoCard : Claim7 := { stood := { row := applyKeepsUptoRow, standIns := [], harness := (true, "8ebf4b5b935d62fb34083f0ec33522bf7d163fe9f2247210fb781f7bf7557387"), looks := false }, kinds := [], alts := [], laidByText := true, laidKinds := [.data, .data, .pinned], laidTests := true, laidLooks := .later }
def ApplyKeepsUptoCardSaid : Prop := Claim7.holds Tryd.pinned (.plain (OpenSpec.upto applyKeepsSpec)) applyKeepsUptoCard

/-- THE SECOND FORM's CARD OF 'epitomelaw06.GapsBack'. -/
def gapsBackUptoCard : Claim7 := { stood := { row := gapsBackUptoRow, standIns := [], harness := (true, "8ebf4b5b935d62fb34083f0ec33522bf7d163fe9f2247210fb781f7bf7557387"), looks := false }, kinds := [], alts := [], laidByText := true, laidKinds := [.data, .data, .pinned], laidTests := true, laidLooks := .later }
def GapsBackUptoCardSaid : Prop := Claim7.holds Tryd.pinned (.plain (OpenSpec.upto gapsBackSpec)) gapsBackUptoCard

/-- THE SECOND FORM's CARD OF 'epitomelaw07.ApplyPlaces'. -/
def applyPlacesUptoCard : Claim7 := { stood := { row := applyPlacesUptoRow, standIns := [], harness := (true, "8ebf4b5b935d62fb34083f0ec33522bf7d163fe9f2247210fb781f7bf7557387"), looks := false }, kinds := [], alts := [], laidByText := true, laidKinds := [.data, .data, .pinned], laidTests := true, laidLooks := .later }
def ApplyPlacesUptoCardSaid : Prop := Claim7.holds Tryd.pinned (.plain (OpenSpec.upto applyPlacesSpec)) applyPlacesUptoCard

/-- THE SECOND FORM's CARD OF 'epitomelaw06.GapsNormal'. -/
def gapsNormalUptoCard : Claim7 := { stood := { row := gapsNormalUptoRow, standIns := [], harness := (true, "8ebf4b5b935d62fb34083f0ec33522bf7d163fe9f2247210fb781f7bf7557387"), looks := false }, kinds := [], alts := [], laidByText := true, laidKinds := [.data, .data, .pinned], laidTests := true, laidLooks := .later }
def GapsNormalUptoCardSaid : Prop := Claim7.holds Tryd.pinned (.plain (OpenSpec.upto gapsNormalSpec)) gapsNormalUptoCard

/-- THE SECOND FORM's CARD OF 'epitomelaw07.ApplyNormal'. -/
def applyNormalUptoCard : Claim7 := { stood := { row := applyNormalUptoRow, standIns := [], harness := (true, "8ebf4b5b935d62fb34083f0ec33522bf7d163fe9f2247210fb781f7bf7557387"), looks := false }, kinds := [], alts := [], laidByText := true, laidKinds := [.data, .data, .pinned], laidTests := true, laidLooks := .later }
def ApplyNormalUptoCardSaid : Prop := Claim7.holds Tryd.pinned (.plain (OpenSpec.upto applyNormalSpec)) applyNormalUptoCard
end Rows
end Go.Proofs.YtkgicpnnlkcaeaaDoor
