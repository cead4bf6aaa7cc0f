/-
  DERIVED. GIVEN WITH THE SEED: THE CARDS: each row of YtnfaahacakliiaaDoorRows.lean that lists a variable, with what it lists TIED to the program's text (the seventh form; the later family's looks); each row that meets fmt, with fmt's text TOLD by the authors' own Lean function (tested against real Go, not proved from fmt's source: count such statements apart). THE CARD IS WHAT COUNTS. Prove the row's statement (the work); the ties are given (YtnfaahacakliiaaDoorTie.lean); close each card by the builder's one call (the guide's Derived/Test/ToyasCard.lean, 'card_holds'). Laid BY PROGRAM, IN A SANDBOX (cutbox-door.mjs). By AI agents, Wed Nov 11 2026. No macro, syntax, notation, axiom, sorry.
-/
import Derived.Test.YtnfaahacakliiaaDoorRows
import GoSem.ClaimSeven
namespace Go.Proofs.YtnfaahacakliiaaDoor
namespace Rows

/-- THE TIED CARD OF 'epitomelaw11.OverAll'. -/
def overAllCard : Claim7 := { stood := { row := overAllRow, standIns := [], harness := (true, "5629122fc7e22ec38083d154da1d52d5b6c509a811ad847a0e4b167bf671c9f1"), looks := false }, kinds := [], alts := [], laidByText := true, laidKinds := [.data, .data, .pinned], laidTests := true, laidLooks := .later }
def OverAllCardSaid : Prop := Claim7.holds Tryd.pinned (.plain (OpenSpec.ofChange overAllSpec)) overAllCard

/-- THE TIED CARD OF 'epitomelaw11.OverDrops'. -/
def overDropsCard : Claim7 := { stood := { row := overDropsRow, standIns := [], harness := (true, "5629122fc7e22ec38083d154da1d52d5b6c509a811ad847a0e4b167bf671c9f1"), looks := false }, kinds := [], alts := [], laidByText := true, laidKinds := [.data, .data, .pinned], laidTests := true, laidLooks := .later }
def OverDropsCardSaid : Prop := Claim7.holds Tryd.pinned (.plain (OpenSpec.ofChange overDropsSpec)) overDropsCard

/-- THE TIED CARD OF 'epitomelaw11.OverApart'. -/
def overApartCard : Claim7 := { stood := { row := overApartRow, standIns := [], harness := (true, "5629122fc7e22ec38083d154da1d52d5b6c509a811ad847a0e4b167bf671c9f1"), looks := false }, kinds := [], alts := [], laidByText := true, laidKinds := [.data, .data, .pinned], laidTests := true, laidLooks := .later }
def OverApartCardSaid : Prop := Claim7.holds Tryd.pinned (.plain (OpenSpec.ofChange overApartSpec)) overApartCard

/-- THE TIED CARD OF 'epitomelaw11.OverKeeps'. -/
def overKeepsCard : Claim7 := { stood := { row := overKeepsRow, standIns := [], harness := (true, "5629122fc7e22ec38083d154da1d52d5b6c509a811ad847a0e4b167bf671c9f1"), looks := false }, kinds := [], alts := [], laidByText := true, laidKinds := [.data, .data, .pinned], laidTests := true, laidLooks := .later }
def OverKeepsCardSaid : Prop := Claim7.holds Tryd.pinned (.plain (OpenSpec.ofChange overKeepsSpec)) overKeepsCard

/-- THE TIED CARD OF 'epitomelaw11.OverPuts'. -/
def overPutsCard : Claim7 := { stood := { row := overPutsRow, standIns := [], harness := (true, "5629122fc7e22ec38083d154da1d52d5b6c509a811ad847a0e4b167bf671c9f1"), looks := false }, kinds := [], alts := [], laidByText := true, laidKinds := [.data, .data, .pinned], laidTests := true, laidLooks := .later }
def OverPutsCardSaid : Prop := Claim7.holds Tryd.pinned (.plain (OpenSpec.ofChange overPutsSpec)) overPutsCard

/-- THE TIED CARD OF 'epitomelaw11.OverGaps'. -/
def overGapsCard : Claim7 := { stood := { row := overGapsRow, standIns := [], harness := (true, "5629122fc7e22ec38083d154da1d52d5b6c509a811ad847a0e4b167bf671c9f1"), looks := false }, kinds := [], alts := [], laidByText := true, laidKinds := [.data, .data, .pinned], laidTests := true, laidLooks := .later }
def OverGapsCardSaid : Prop := Claim7.holds Tryd.pinned (.plain (OpenSpec.ofChange overGapsSpec)) overGapsCard

/-- THE TIED CARD OF 'epitomelaw11.OverOne'. -/
def overOneCard : Claim7 := { stood := { row := overOneRow, standIns := [], harness := (true, "5629122fc7e22ec38083d154da1d52d5b6c509a811ad847a0e4b167bf671c9f1"), looks := false }, kinds := [], alts := [], laidByText := true, laidKinds := [.data, .data, .pinned], laidTests := true, laidLooks := .later }
def OverOneCardSaid : Prop := Claim7.holds Tryd.pinned (.plain (OpenSpec.ofChange overOneSpec)) overOneCard

/-- THE TIED CARD OF 'epitomelaw11.OverMany'. -/
def overManyCard : Claim7 := { stood := { row := overManyRow, standIns := [], harness := (true, "5629122fc7e22ec38083d154da1d52d5b6c509a811ad847a0e4b167bf671c9f1"), looks := false }, kinds := [], alts := [], laidByText := true, laidKinds := [.data, .data, .pinned], laidTests := true, laidLooks := .later }
def OverManyCardSaid : Prop := Claim7.holds Tryd.pinned (.plain (OpenSpec.ofChange overManySpec)) overManyCard

/-- THE SECOND FORM's CARD OF 'epitomelaw11.OverAll'. -/
def overAllUptoCard : Claim7 := { stood := { row := overAllUptoRow, standIns := [], harness := (true, "5629122fc7e22ec38083d154da1d52d5b6c509a811ad847a0e4b167bf671c9f1"), looks := false }, kinds := [], alts := [], laidByText := true, laidKinds := [.data, .data, .pinned], laidTests := true, laidLooks := .later }
def OverAllUptoCardSaid : Prop := Claim7.holds Tryd.pinned (.plain (OpenSpec.upto overAllSpec)) overAllUptoCard

/-- THE SECOND FORM's CARD OF 'epitomelaw11.OverDrops'. -/
def overDropsUptoCard : Claim7 := { stood := { row := overDropsUptoRow, standIns := [], harness := (true, "5629122fc7e22ec38083d154da1d52d5b6c509a811ad847a0e4b167bf671c9f1"), looks := false }, kinds := [], alts := [], laidByText := true, laidKinds := [.data, .data, .pinned], laidTests := true, laidLooks := .later }
def OverDropsUptoCardSaid : Prop := Claim7.holds Tryd.pinned (.plain (OpenSpec.upto overDropsSpec)) overDropsUptoCard

/-- THE SECOND FORM's CARD OF 'epitomelaw11.OverApart'. -/
def overApartUptoCard : Claim7 := { stood := { row := overApartUptoRow, standIns := [], harness := (true, "5629122fc7e22ec38083d154da1d52d5b6c509a811ad847a0e4b167bf671c9f1"), looks := false }, kinds := [], alts := [], laidByText := true, laidKinds := [.data, .data, .pinned], laidTests := true, laidLooks := .later }
def OverApartUptoCardSaid : Prop := Claim7.holds Tryd.pinned (.plain (OpenSpec.upto overApartSpec)) overApartUptoCard

/-- THE SECOND FORM's CARD OF 'epitomelaw11.OverKeeps'. -/
def overKeepsUptoCard : Claim7 := { stood := { row := overKeepsUptoRow, standIns := [], harness := (true, "5629122fc7e22ec38083d154da1d52d5b6c509a811ad847a0e4b167bf671c9f1"), looks := false }, kinds := [], alts := [], laidByText := true, laidKinds := [.data, .data, .pinned], laidTests := true, laidLooks := .later }
def OverKeepsUptoCardSaid : Prop := Claim7.holds Tryd.pinned (.plain (OpenSpec.upto overKeepsSpec)) overKeepsUptoCard

/-- THE SECOND FORM's CARD OF 'epitomelaw11.OverPuts'. -/
def overPutsUptoCard : Claim7 := { stood := { row := overPutsUptoRow, standIns := [], harness := (true, "5629122fc7e22ec38083d154da1d52d5b6c509a811ad847a0e4b167bf671c9f1"), looks := false }, kinds := [], alts := [], laidByText := true, laidKinds := [.data, .data, .pinned], laidTests := true, laidLooks := .later }
def OverPutsUptoCardSaid : Prop := Claim7.holds Tryd.pinned (.plain (OpenSpec.upto overPutsSpec)) overPutsUptoCard

/-- THE SECOND FORM's CARD OF 'epitomelaw11.OverGaps'. -/
def overGapsUptoCard : Claim7 := { stood := { row := overGapsUptoRow, standIns := [], harness := (true, "5629122fc7e22ec38083d154da1d52d5b6c509a811ad847a0e4b167bf671c9f1"), looks := false }, kinds := [], alts := [], laidByText := true, laidKinds := [.data, .data, .pinned], laidTests := true, laidLooks := .later }
def OverGapsUptoCardSaid : Prop := Claim7.holds Tryd.pinned (.plain (OpenSpec.upto overGapsSpec)) overGapsUptoCard

/-- THE SECOND FORM's CARD OF 'epitomelaw11.OverOne'. -/
def overOneUptoCard : Claim7 := { stood := { row := overOneUptoRow, standIns := [], harness := (true, "5629122fc7e22ec38083d154da1d52d5b6c509a811ad847a0e4b167bf671c9f1"), looks := false }, kinds := [], alts := [], laidByText := true, laidKinds := [.data, .data, .pinned], laidTests := true, laidLooks := .later }
def OverOneUptoCardSaid : Prop := Claim7.holds Tryd.pinned (.plain (OpenSpec.upto overOneSpec)) overOneUptoCard

/-- THE SECOND FORM's CARD OF 'epitomelaw11.OverMany'. -/
def overManyUptoCard : Claim7 := { stood := { row := overManyUptoRow, standIns := [], harness := (true, "5629122fc7e22ec38083d154da1d52d5b6c509a811ad847a0e4b167bf671c9f1"), looks := false }, kinds := [], alts := [], laidByText := true, laidKinds := [.data, .data, .pinned], laidTests := true, laidLooks := .later }
def OverManyUptoCardSaid : Prop := Claim7.holds Tryd.pinned (.plain (OpenSpec.upto overManySpec)) overManyUptoCard
end Rows
end Go.Proofs.YtnfaahacakliiaaDoor
