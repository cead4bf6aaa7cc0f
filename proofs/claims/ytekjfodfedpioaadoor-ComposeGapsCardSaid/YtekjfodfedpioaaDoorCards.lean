/-
  DERIVED. GIVEN WITH THE SEED: THE CARDS: each row of YtekjfodfedpioaaDoorRows.lean that lists a variable, with what it lists TIED to the program's text (the seventh form; the later family's looks); each row that meets fmt, with fmt's text TOLD by the authors' own Lean function (tested against real Go, not proved from fmt's source: count such statements apart). THE CARD IS WHAT COUNTS. Prove the row's statement (the work); the ties are given (YtekjfodfedpioaaDoorTie.lean); close each card by the builder's one call (the guide's Derived/Test/ToyasCard.lean, 'card_holds'). Laid BY PROGRAM, IN A SANDBOX (cutbox-door.mjs). By AI agents, Wed Nov 11 2026. No macro, syntax, notation, axiom, sorry.
-/
import Derived.Test.YtekjfodfedpioaaDoorRows
import GoSem.ClaimSeven
namespace Go.Proofs.YtekjfodfedpioaaDoor
namespace Rows

/-- THE TIED CARD OF 'epitomelaw09.ComposeGaps'. -/
def composeGapsCard : Claim7 := { stood := { row := composeGapsRow, standIns := [], harness := (true, "2881f6b42b2663ee523b6f74ae38605bac96bf7f7fa06ebc2c0fc1d4bfb34da2"), looks := false }, kinds := [], alts := [], laidByText := true, laidKinds := [.data, .data, .pinned], laidTests := true, laidLooks := .later }
def ComposeGapsCardSaid : Prop := Claim7.holds Tryd.pinned (.plain (OpenSpec.ofChange composeGapsSpec)) composeGapsCard

/-- THE TIED CARD OF 'epitomelaw09.ComposeAll'. -/
def composeAllCard : Claim7 := { stood := { row := composeAllRow, standIns := [], harness := (true, "2881f6b42b2663ee523b6f74ae38605bac96bf7f7fa06ebc2c0fc1d4bfb34da2"), looks := false }, kinds := [], alts := [], laidByText := true, laidKinds := [.data, .data, .pinned], laidTests := true, laidLooks := .later }
def ComposeAllCardSaid : Prop := Claim7.holds Tryd.pinned (.plain (OpenSpec.ofChange composeAllSpec)) composeAllCard

/-- THE TIED CARD OF 'epitomelaw11.OverGaps'. -/
def overGapsCard : Claim7 := { stood := { row := overGapsRow, standIns := [], harness := (true, "2881f6b42b2663ee523b6f74ae38605bac96bf7f7fa06ebc2c0fc1d4bfb34da2"), looks := false }, kinds := [], alts := [], laidByText := true, laidKinds := [.data, .data, .pinned], laidTests := true, laidLooks := .later }
def OverGapsCardSaid : Prop := Claim7.holds Tryd.pinned (.plain (OpenSpec.ofChange overGapsSpec)) overGapsCard

/-- THE TIED CARD OF 'epitomelaw06.GapsJoin'. -/
def gapsJoinCard : Claim7 := { stood := { row := gapsJoinRow, standIns := [], harness := (true, "2881f6b42b2663ee523b6f74ae38605bac96bf7f7fa06ebc2c0fc1d4bfb34da2"), looks := false }, kinds := [], alts := [], laidByText := true, laidKinds := [.data, .data, .pinned], laidTests := true, laidLooks := .later }
def GapsJoinCardSaid : Prop := Claim7.holds Tryd.pinned (.plain (OpenSpec.ofChange gapsJoinSpec)) gapsJoinCard

/-- THE TIED CARD OF 'epitomelaw13.ThroughAll'. -/
def throughAllCard : Claim7 := { stood := { row := throughAllRow, standIns := [], harness := (true, "2881f6b42b2663ee523b6f74ae38605bac96bf7f7fa06ebc2c0fc1d4bfb34da2"), looks := false }, kinds := [], alts := [], laidByText := true, laidKinds := [.data, .data, .pinned], laidTests := true, laidLooks := .later }
def ThroughAllCardSaid : Prop := Claim7.holds Tryd.pinned (.plain (OpenSpec.ofChange throughAllSpec)) throughAllCard

/-- THE TIED CARD OF 'epitomelaw08.PlaceGaps'. -/
def placeGapsCard : Claim7 := { stood := { row := placeGapsRow, standIns := [], harness := (true, "2881f6b42b2663ee523b6f74ae38605bac96bf7f7fa06ebc2c0fc1d4bfb34da2"), looks := false }, kinds := [], alts := [], laidByText := true, laidKinds := [.data, .data, .pinned], laidTests := true, laidLooks := .later }
def PlaceGapsCardSaid : Prop := Claim7.holds Tryd.pinned (.plain (OpenSpec.ofChange placeGapsSpec)) placeGapsCard

/-- THE SECOND FORM's CARD OF 'epitomelaw09.ComposeGaps'. -/
def composeGapsUptoCard : Claim7 := { stood := { row := composeGapsUptoRow, standIns := [], harness := (true, "2881f6b42b2663ee523b6f74ae38605bac96bf7f7fa06ebc2c0fc1d4bfb34da2"), looks := false }, kinds := [], alts := [], laidByText := true, laidKinds := [.data, .data, .pinned], laidTests := true, laidLooks := .later }
def ComposeGapsUptoCardSaid : Prop := Claim7.holds Tryd.pinned (.plain (OpenSpec.upto composeGapsSpec)) composeGapsUptoCard

/-- THE SECOND FORM's CARD OF 'epitomelaw09.ComposeAll'. -/
def composeAllUptoCard : Claim7 := { stood := { row := composeAllUptoRow, standIns := [], harness := (true, "2881f6b42b2663ee523b6f74ae38605bac96bf7f7fa06ebc2c0fc1d4bfb34da2"), looks := false }, kinds := [], alts := [], laidByText := true, laidKinds := [.data, .data, .pinned], laidTests := true, laidLooks := .later }
def ComposeAllUptoCardSaid : Prop := Claim7.holds Tryd.pinned (.plain (OpenSpec.upto composeAllSpec)) composeAllUptoCard

/-- THE SECOND FORM's CARD OF 'epitomelaw11.OverGaps'. -/
def overGapsUptoCard : Claim7 := { stood := { row := overGapsUptoRow, standIns := [], harness := (true, "2881f6b42b2663ee523b6f74ae38605bac96bf7f7fa06ebc2c0fc1d4bfb34da2"), looks := false }, kinds := [], alts := [], laidByText := true, laidKinds := [.data, .data, .pinned], laidTests := true, laidLooks := .later }
def OverGapsUptoCardSaid : Prop := Claim7.holds Tryd.pinned (.plain (OpenSpec.upto overGapsSpec)) overGapsUptoCard

/-- THE SECOND FORM's CARD OF 'epitomelaw06.GapsJoin'. -/
def gapsJoinUptoCard : Claim7 := { stood := { row := gapsJoinUptoRow, standIns := [], harness := (true, "2881f6b42b2663ee523b6f74ae38605bac96bf7f7fa06ebc2c0fc1d4bfb34da2"), looks := false }, kinds := [], alts := [], laidByText := true, laidKinds := [.data, .data, .pinned], laidTests := true, laidLooks := .later }
def GapsJoinUptoCardSaid : Prop := Claim7.holds Tryd.pinned (.plain (OpenSpec.upto gapsJoinSpec)) gapsJoinUptoCard

/-- THE SECOND FORM's CARD OF 'epitomelaw13.ThroughAll'. -/
def throughAllUptoCard : Claim7 := { stood := { row := throughAllUptoRow, standIns := [], harness := (true, "2881f6b42b2663ee523b6f74ae38605bac96bf7f7fa06ebc2c0fc1d4bfb34da2"), looks := false }, kinds := [], alts := [], laidByText := true, laidKinds := [.data, .data, .pinned], laidTests := true, laidLooks := .later }
def ThroughAllUptoCardSaid : Prop := Claim7.holds Tryd.pinned (.plain (OpenSpec.upto throughAllSpec)) throughAllUptoCard

/-- THE SECOND FORM's CARD OF 'epitomelaw08.PlaceGaps'. -/
def placeGapsUptoCard : Claim7 := { stood := { row := placeGapsUptoRow, standIns := [], harness := (true, "2881f6b42b2663ee523b6f74ae38605bac96bf7f7fa06ebc2c0fc1d4bfb34da2"), looks := false }, kinds := [], alts := [], laidByText := true, laidKinds := [.data, .data, .pinned], laidTests := true, laidLooks := .later }
def PlaceGapsUptoCardSaid : Prop := Claim7.holds Tryd.pinned (.plain (OpenSpec.upto placeGapsSpec)) placeGapsUptoCard
end Rows
end Go.Proofs.YtekjfodfedpioaaDoor
