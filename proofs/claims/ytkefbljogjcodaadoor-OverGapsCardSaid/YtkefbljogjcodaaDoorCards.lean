/-
  DERIVED. GIVEN WITH THE SEED: THE CARDS: each row of YtkefbljogjcodaaDoorRows.lean that lists a variable, with what it lists TIED to the program's text (the seventh form; the later family's looks); each row that meets fmt, with fmt's text TOLD by the authors' own Lean function (tested against real Go, not proved from fmt's source: count such statements apart). THE CARD IS WHAT COUNTS. Prove the row's statement (the work); the ties are given (YtkefbljogjcodaaDoorTie.lean); close each card by the builder's one call (the guide's Derived/Test/ToyasCard.lean, 'card_holds'). Laid BY PROGRAM, IN A SANDBOX (cutbox-door.mjs). By AI agents, Wed Nov 11 2026. No macro, syntax, notation, axiom, sorry.
-/
import Derived.Test.YtkefbljogjcodaaDoorRows
import GoSem.ClaimSeven
namespace Go.Proofs.YtkefbljogjcodaaDoor
namespace Rows

/-- THE TIED CARD OF 'epitomelaw12.UnderTie'. -/
def underTieCard : Claim7 := { stood := { row := underTieRow, standIns := [], harness := (true, "cb220046ee5715416f27fb58bb862ce5d799745ed337233484527cd9cd290028"), looks := false }, kinds := [], alts := [], laidByText := true, laidKinds := [.data, .data, .pinned], laidTests := true, laidLooks := .later }
def UnderTieCardSaid : Prop := Claim7.holds Tryd.pinned (.plain (OpenSpec.ofChange underTieSpec)) underTieCard

/-- THE TIED CARD OF 'epitomelaw12.UnderAll'. -/
def underAllCard : Claim7 := { stood := { row := underAllRow, standIns := [], harness := (true, "cb220046ee5715416f27fb58bb862ce5d799745ed337233484527cd9cd290028"), looks := false }, kinds := [], alts := [], laidByText := true, laidKinds := [.data, .data, .pinned], laidTests := true, laidLooks := .later }
def UnderAllCardSaid : Prop := Claim7.holds Tryd.pinned (.plain (OpenSpec.ofChange underAllSpec)) underAllCard

/-- THE TIED CARD OF 'epitomelaw12.UnderChain'. -/
def underChainCard : Claim7 := { stood := { row := underChainRow, standIns := [], harness := (true, "cb220046ee5715416f27fb58bb862ce5d799745ed337233484527cd9cd290028"), looks := false }, kinds := [], alts := [], laidByText := true, laidKinds := [.data, .data, .pinned], laidTests := true, laidLooks := .later }
def UnderChainCardSaid : Prop := Claim7.holds Tryd.pinned (.plain (OpenSpec.ofChange underChainSpec)) underChainCard

/-- THE TIED CARD OF 'epitomelaw11.OverAll'. -/
def overAllCard : Claim7 := { stood := { row := overAllRow, standIns := [], harness := (true, "cb220046ee5715416f27fb58bb862ce5d799745ed337233484527cd9cd290028"), looks := false }, kinds := [], alts := [], laidByText := true, laidKinds := [.data, .data, .pinned], laidTests := true, laidLooks := .later }
def OverAllCardSaid : Prop := Claim7.holds Tryd.pinned (.plain (OpenSpec.ofChange overAllSpec)) overAllCard

/-- THE TIED CARD OF 'epitomelaw11.OverGaps'. -/
def overGapsCard : Claim7 := { stood := { row := overGapsRow, standIns := [], harness := (true, "cb220046ee5715416f27fb58bb862ce5d799745ed337233484527cd9cd290028"), looks := false }, kinds := [], alts := [], laidByText := true, laidKinds := [.data, .data, .pinned], laidTests := true, laidLooks := .later }
def OverGapsCardSaid : Prop := Claim7.holds Tryd.pinned (.plain (OpenSpec.ofChange overGapsSpec)) overGapsCard

/-- THE TIED CARD OF 'epitomelaw09.ComposeAll'. -/
def composeAllCard : Claim7 := { stood := { row := composeAllRow, standIns := [], harness := (true, "cb220046ee5715416f27fb58bb862ce5d799745ed337233484527cd9cd290028"), looks := false }, kinds := [], alts := [], laidByText := true, laidKinds := [.data, .data, .pinned], laidTests := true, laidLooks := .later }
def ComposeAllCardSaid : Prop := Claim7.holds Tryd.pinned (.plain (OpenSpec.ofChange composeAllSpec)) composeAllCard

/-- THE TIED CARD OF 'epitomelaw08.PlaceGaps'. -/
def placeGapsCard : Claim7 := { stood := { row := placeGapsRow, standIns := [], harness := (true, "cb220046ee5715416f27fb58bb862ce5d799745ed337233484527cd9cd290028"), looks := false }, kinds := [], alts := [], laidByText := true, laidKinds := [.data, .data, .pinned], laidTests := true, laidLooks := .later }
def PlaceGapsCardSaid : Prop := Claim7.holds Tryd.pinned (.plain (OpenSpec.ofChange placeGapsSpec)) placeGapsCard

/-- THE TIED CARD OF 'epitomelaw07.ApplyRow'. -/
def applyRowCard : Claim7 := { stood := { row := applyRowRow, standIns := [], harness := (true, "cb220046ee5715416f27fb58bb862ce5d799745ed337233484527cd9cd290028"), looks := false }, kinds := [], alts := [], laidByText := true, laidKinds := [.data, .data, .pinned], laidTests := true, laidLooks := .later }
def ApplyRowCardSaid : Prop := Claim7.holds Tryd.pinned (.plain (OpenSpec.ofChange applyRowSpec)) applyRowCard

/-- THE TIED CARD OF 'epitomelaw06.GapsOne'. -/
def gapsOneCard : Claim7 := { stood := { row := gapsOneRow, standIns := [], harness := (true, "cb220046ee5715416f27fb58bb862ce5d799745ed337233484527cd9cd290028"), looks := false }, kinds := [], alts := [], laidByText := true, laidKinds := [.data, .data, .pinned], laidTests := true, laidLooks := .later }
def GapsOneCardSaid : Prop := Claim7.holds Tryd.pinned (.plain (OpenSpec.ofChange gapsOneSpec)) gapsOneCard

/-- THE TIED CARD OF 'epitomelaw06.GapsJoin'. -/
def gapsJoinCard : Claim7 := { stood := { row := gapsJoinRow, standIns := [], harness := (true, "cb220046ee5715416f27fb58bb862ce5d799745ed337233484527cd9cd290028"), looks := false }, kinds := [], alts := [], laidByText := true, laidKinds := [.data, .data, .pinned], laidTests := true, laidLooks := .later }
def GapsJoinCardSaid : Prop := Claim7.holds Tryd.pinned (.plain (OpenSpec.ofChange gapsJoinSpec)) gapsJoinCard

/-- THE SECOND FORM's CARD OF 'epitomelaw12.UnderTie'. -/
def underTieUptoCard : Claim7 := { stood := { row := underTieUptoRow, standIns := [], harness := (true, "cb220046ee5715416f27fb58bb862ce5d799745ed337233484527cd9cd290028"), looks := false }, kinds := [], alts := [], laidByText := true, laidKinds := [.data, .data, .pinned], laidTests := true, laidLooks := .later }
def UnderTieUptoCardSaid : Prop := Claim7.holds Tryd.pinned (.plain (OpenSpec.upto underTieSpec)) underTieUptoCard

/-- THE SECOND FORM's CARD OF 'epitomelaw12.UnderAll'. -/
def underAllUptoCard : Claim7 := { stood := { row := underAllUptoRow, standIns := [], harness := (true, "cb220046ee5715416f27fb58bb862ce5d799745ed337233484527cd9cd290028"), looks := false }, kinds := [], alts := [], laidByText := true, laidKinds := [.data, .data, .pinned], laidTests := true, laidLooks := .later }
def UnderAllUptoCardSaid : Prop := Claim7.holds Tryd.pinned (.plain (OpenSpec.upto underAllSpec)) underAllUptoCard

/-- THE SECOND FORM's CARD OF 'epitomelaw12.UnderChain'. -/
def underChainUptoCard : Claim7 := { stood := { row := underChainUptoRow, standIns := [], harness := (true, "cb220046ee5715416f27fb58bb862ce5d799745ed337233484527cd9cd290028"), looks := false }, kinds := [], alts := [], laidByText := true, laidKinds := [.data, .data, .pinned], laidTests := true, laidLooks := .later }
def UnderChainUptoCardSaid : Prop := Claim7.holds Tryd.pinned (.plain (OpenSpec.upto underChainSpec)) underChainUptoCard

/-- THE SECOND FORM's CARD OF 'epitomelaw11.OverAll'. -/
def overAllUptoCard : Claim7 := { stood := { row := overAllUptoRow, standIns := [], harness := (true, "cb220046ee5715416f27fb58bb862ce5d799745ed337233484527cd9cd290028"), looks := false }, kinds := [], alts := [], laidByText := true, laidKinds := [.data, .data, .pinned], laidTests := true, laidLooks := .later }
def OverAllUptoCardSaid : Prop := Claim7.holds Tryd.pinned (.plain (OpenSpec.upto overAllSpec)) overAllUptoCard

/-- THE SECOND FORM's CARD OF 'epitomelaw11.OverGaps'. -/
def overGapsUptoCard : Claim7 := { stood := { row := overGapsUptoRow, standIns := [], harness := (true, "cb220046ee5715416f27fb58bb862ce5d799745ed337233484527cd9cd290028"), looks := false }, kinds := [], alts := [], laidByText := true, laidKinds := [.data, .data, .pinned], laidTests := true, laidLooks := .later }
def OverGapsUptoCardSaid : Prop := Claim7.holds Tryd.pinned (.plain (OpenSpec.upto overGapsSpec)) overGapsUptoCard

/-- THE SECOND FORM's CARD OF 'epitomelaw09.ComposeAll'. -/
def composeAllUptoCard : Claim7 := { stood := { row := composeAllUptoRow, standIns := [], harness := (true, "cb220046ee5715416f27fb58bb862ce5d799745ed337233484527cd9cd290028"), looks := false }, kinds := [], alts := [], laidByText := true, laidKinds := [.data, .data, .pinned], laidTests := true, laidLooks := .later }
def ComposeAllUptoCardSaid : Prop := Claim7.holds Tryd.pinned (.plain (OpenSpec.upto composeAllSpec)) composeAllUptoCard

/-- THE SECOND FORM's CARD OF 'epitomelaw08.PlaceGaps'. -/
def placeGapsUptoCard : Claim7 := { stood := { row := placeGapsUptoRow, standIns := [], harness := (true, "cb220046ee5715416f27fb58bb862ce5d799745ed337233484527cd9cd290028"), looks := false }, kinds := [], alts := [], laidByText := true, laidKinds := [.data, .data, .pinned], laidTests := true, laidLooks := .later }
def PlaceGapsUptoCardSaid : Prop := Claim7.holds Tryd.pinned (.plain (OpenSpec.upto placeGapsSpec)) placeGapsUptoCard

/-- THE SECOND FORM's CARD OF 'epitomelaw07.ApplyRow'. -/
def applyRowUptoCard : Claim7 := { stood := { row := applyRowUptoRow, standIns := [], harness := (true, "cb220046ee5715416f27fb58bb862ce5d799745ed337233484527cd9cd290028"), looks := false }, kinds := [], alts := [], laidByText := true, laidKinds := [.data, .data, .pinned], laidTests := true, laidLooks := .later }
def ApplyRowUptoCardSaid : Prop := Claim7.holds Tryd.pinned (.plain (OpenSpec.upto applyRowSpec)) applyRowUptoCard

/-- THE SECOND FORM's CARD OF 'epitomelaw06.GapsOne'. -/
def gapsOneUptoCard : Claim7 := { stood := { row := gapsOneUptoRow, standIns := [], harness := (true, "cb220046ee5715416f27fb58bb862ce5d799745ed337233484527cd9cd290028"), looks := false }, kinds := [], alts := [], laidByText := true, laidKinds := [.data, .data, .pinned], laidTests := true, laidLooks := .later }
def GapsOneUptoCardSaid : Prop := Claim7.holds Tryd.pinned (.plain (OpenSpec.upto gapsOneSpec)) gapsOneUptoCard

/-- THE SECOND FORM's CARD OF 'epitomelaw06.GapsJoin'. -/
def gapsJoinUptoCard : Claim7 := { stood := { row := gapsJoinUptoRow, standIns := [], harness := (true, "cb220046ee5715416f27fb58bb862ce5d799745ed337233484527cd9cd290028"), looks := false }, kinds := [], alts := [], laidByText := true, laidKinds := [.data, .data, .pinned], laidTests := true, laidLooks := .later }
def GapsJoinUptoCardSaid : Prop := Claim7.holds Tryd.pinned (.plain (OpenSpec.upto gapsJoinSpec)) gapsJoinUptoCard
end Rows
end Go.Proofs.YtkefbljogjcodaaDoor
