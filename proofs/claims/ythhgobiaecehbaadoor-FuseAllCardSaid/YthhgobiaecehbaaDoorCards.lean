/-
  DERIVED. GIVEN WITH THE SEED: THE CARDS: each row of YthhgobiaecehbaaDoorRows.lean that lists a variable, with what it lists TIED to the program's text (the seventh form; the later family's looks); each row that meets fmt, with fmt's text TOLD by the authors' own Lean function (tested against real Go, not proved from fmt's source: count such statements apart). THE CARD IS WHAT COUNTS. Prove the row's statement (the work); the ties are given (YthhgobiaecehbaaDoorTie.lean); close each card by the builder's one call (the guide's Derived/Test/ToyasCard.lean, 'card_holds'). Laid BY PROGRAM, IN A SANDBOX (cutbox-door.mjs). By AI agents, Wed Nov 11 2026. No macro, syntax, notation, axiom, sorry.
-/
import Derived.Test.YthhgobiaecehbaaDoorRows
import GoSem.ClaimSeven
namespace Go.Proofs.YthhgobiaecehbaaDoor
namespace Rows

/-- THE TIED CARD OF 'epitomelaw10.FuseAll'. -/
def fuseAllCard : Claim7 := { stood := { row := fuseAllRow, standIns := [], harness := (true, "8fb316f5ff7554be16da48bf4668a02c6c874877236834196521f490ba2e0f73"), looks := false }, kinds := [], alts := [], laidByText := true, laidKinds := [.data, .data, .pinned], laidTests := true, laidLooks := .later }
def FuseAllCardSaid : Prop := Claim7.holds Tryd.pinned (.plain (OpenSpec.ofChange fuseAllSpec)) fuseAllCard

/-- THE TIED CARD OF 'epitomelaw10.FuseParts'. -/
def fusePartsCard : Claim7 := { stood := { row := fusePartsRow, standIns := [], harness := (true, "8fb316f5ff7554be16da48bf4668a02c6c874877236834196521f490ba2e0f73"), looks := false }, kinds := [], alts := [], laidByText := true, laidKinds := [.data, .data, .pinned], laidTests := true, laidLooks := .later }
def FusePartsCardSaid : Prop := Claim7.holds Tryd.pinned (.plain (OpenSpec.ofChange fusePartsSpec)) fusePartsCard

/-- THE TIED CARD OF 'epitomelaw10.FuseCancels'. -/
def fuseCancelsCard : Claim7 := { stood := { row := fuseCancelsRow, standIns := [], harness := (true, "8fb316f5ff7554be16da48bf4668a02c6c874877236834196521f490ba2e0f73"), looks := false }, kinds := [], alts := [], laidByText := true, laidKinds := [.data, .data, .pinned], laidTests := true, laidLooks := .later }
def FuseCancelsCardSaid : Prop := Claim7.holds Tryd.pinned (.plain (OpenSpec.ofChange fuseCancelsSpec)) fuseCancelsCard

/-- THE TIED CARD OF 'epitomelaw10.FuseOne'. -/
def fuseOneCard : Claim7 := { stood := { row := fuseOneRow, standIns := [], harness := (true, "8fb316f5ff7554be16da48bf4668a02c6c874877236834196521f490ba2e0f73"), looks := false }, kinds := [], alts := [], laidByText := true, laidKinds := [.data, .data, .pinned], laidTests := true, laidLooks := .later }
def FuseOneCardSaid : Prop := Claim7.holds Tryd.pinned (.plain (OpenSpec.ofChange fuseOneSpec)) fuseOneCard

/-- THE TIED CARD OF 'epitomelaw10.FuseFirst'. -/
def fuseFirstCard : Claim7 := { stood := { row := fuseFirstRow, standIns := [], harness := (true, "8fb316f5ff7554be16da48bf4668a02c6c874877236834196521f490ba2e0f73"), looks := false }, kinds := [], alts := [], laidByText := true, laidKinds := [.data, .data, .pinned], laidTests := true, laidLooks := .later }
def FuseFirstCardSaid : Prop := Claim7.holds Tryd.pinned (.plain (OpenSpec.ofChange fuseFirstSpec)) fuseFirstCard

/-- THE TIED CARD OF 'epitomelaw10.FuseDoes'. -/
def fuseDoesCard : Claim7 := { stood := { row := fuseDoesRow, standIns := [], harness := (true, "8fb316f5ff7554be16da48bf4668a02c6c874877236834196521f490ba2e0f73"), looks := false }, kinds := [], alts := [], laidByText := true, laidKinds := [.data, .data, .pinned], laidTests := true, laidLooks := .later }
def FuseDoesCardSaid : Prop := Claim7.holds Tryd.pinned (.plain (OpenSpec.ofChange fuseDoesSpec)) fuseDoesCard

/-- THE TIED CARD OF 'epitomelaw13.ThroughAll'. -/
def throughAllCard : Claim7 := { stood := { row := throughAllRow, standIns := [], harness := (true, "8fb316f5ff7554be16da48bf4668a02c6c874877236834196521f490ba2e0f73"), looks := false }, kinds := [], alts := [], laidByText := true, laidKinds := [.data, .data, .pinned], laidTests := true, laidLooks := .later }
def ThroughAllCardSaid : Prop := Claim7.holds Tryd.pinned (.plain (OpenSpec.ofChange throughAllSpec)) throughAllCard

/-- THE TIED CARD OF 'epitomelaw13.ThroughParts'. -/
def throughPartsCard : Claim7 := { stood := { row := throughPartsRow, standIns := [], harness := (true, "8fb316f5ff7554be16da48bf4668a02c6c874877236834196521f490ba2e0f73"), looks := false }, kinds := [], alts := [], laidByText := true, laidKinds := [.data, .data, .pinned], laidTests := true, laidLooks := .later }
def ThroughPartsCardSaid : Prop := Claim7.holds Tryd.pinned (.plain (OpenSpec.ofChange throughPartsSpec)) throughPartsCard

/-- THE TIED CARD OF 'epitomelaw13.ThroughNone'. -/
def throughNoneCard : Claim7 := { stood := { row := throughNoneRow, standIns := [], harness := (true, "8fb316f5ff7554be16da48bf4668a02c6c874877236834196521f490ba2e0f73"), looks := false }, kinds := [], alts := [], laidByText := true, laidKinds := [.data, .data, .pinned], laidTests := true, laidLooks := .later }
def ThroughNoneCardSaid : Prop := Claim7.holds Tryd.pinned (.plain (OpenSpec.ofChange throughNoneSpec)) throughNoneCard

/-- THE TIED CARD OF 'epitomelaw13.ThroughSteps'. -/
def throughStepsCard : Claim7 := { stood := { row := throughStepsRow, standIns := [], harness := (true, "8fb316f5ff7554be16da48bf4668a02c6c874877236834196521f490ba2e0f73"), looks := false }, kinds := [], alts := [], laidByText := true, laidKinds := [.data, .data, .pinned], laidTests := true, laidLooks := .later }
def ThroughStepsCardSaid : Prop := Claim7.holds Tryd.pinned (.plain (OpenSpec.ofChange throughStepsSpec)) throughStepsCard

/-- THE TIED CARD OF 'epitomelaw13.ThroughMeets'. -/
def throughMeetsCard : Claim7 := { stood := { row := throughMeetsRow, standIns := [], harness := (true, "8fb316f5ff7554be16da48bf4668a02c6c874877236834196521f490ba2e0f73"), looks := false }, kinds := [], alts := [], laidByText := true, laidKinds := [.data, .data, .pinned], laidTests := true, laidLooks := .later }
def ThroughMeetsCardSaid : Prop := Claim7.holds Tryd.pinned (.plain (OpenSpec.ofChange throughMeetsSpec)) throughMeetsCard

/-- THE SECOND FORM's CARD OF 'epitomelaw10.FuseAll'. -/
def fuseAllUptoCard : Claim7 := { stood := { row := fuseAllUptoRow, standIns := [], harness := (true, "8fb316f5ff7554be16da48bf4668a02c6c874877236834196521f490ba2e0f73"), looks := false }, kinds := [], alts := [], laidByText := true, laidKinds := [.data, .data, .pinned], laidTests := true, laidLooks := .later }
def FuseAllUptoCardSaid : Prop := Claim7.holds Tryd.pinned (.plain (OpenSpec.upto fuseAllSpec)) fuseAllUptoCard

/-- THE SECOND FORM's CARD OF 'epitomelaw10.FuseParts'. -/
def fusePartsUptoCard : Claim7 := { stood := { row := fusePartsUptoRow, standIns := [], harness := (true, "8fb316f5ff7554be16da48bf4668a02c6c874877236834196521f490ba2e0f73"), looks := false }, kinds := [], alts := [], laidByText := true, laidKinds := [.data, .data, .pinned], laidTests := true, laidLooks := .later }
def FusePartsUptoCardSaid : Prop := Claim7.holds Tryd.pinned (.plain (OpenSpec.upto fusePartsSpec)) fusePartsUptoCard

/-- THE SECOND FORM's CARD OF 'epitomelaw10.FuseCancels'. -/
def fuseCancelsUptoCard : Claim7 := { stood := { row := fuseCancelsUptoRow, standIns := [], harness := (true, "8fb316f5ff7554be16da48bf4668a02c6c874877236834196521f490ba2e0f73"), looks := false }, kinds := [], alts := [], laidByText := true, laidKinds := [.data, .data, .pinned], laidTests := true, laidLooks := .later }
def FuseCancelsUptoCardSaid : Prop := Claim7.holds Tryd.pinned (.plain (OpenSpec.upto fuseCancelsSpec)) fuseCancelsUptoCard

/-- THE SECOND FORM's CARD OF 'epitomelaw10.FuseOne'. -/
def fuseOneUptoCard : Claim7 := { stood := { row := fuseOneUptoRow, standIns := [], harness := (true, "8fb316f5ff7554be16da48bf4668a02c6c874877236834196521f490ba2e0f73"), looks := false }, kinds := [], alts := [], laidByText := true, laidKinds := [.data, .data, .pinned], laidTests := true, laidLooks := .later }
def FuseOneUptoCardSaid : Prop := Claim7.holds Tryd.pinned (.plain (OpenSpec.upto fuseOneSpec)) fuseOneUptoCard

/-- THE SECOND FORM's CARD OF 'epitomelaw10.FuseFirst'. -/
def fuseFirstUptoCard : Claim7 := { stood := { row := fuseFirstUptoRow, standIns := [], harness := (true, "8fb316f5ff7554be16da48bf4668a02c6c874877236834196521f490ba2e0f73"), looks := false }, kinds := [], alts := [], laidByText := true, laidKinds := [.data, .data, .pinned], laidTests := true, laidLooks := .later }
def FuseFirstUptoCardSaid : Prop := Claim7.holds Tryd.pinned (.plain (OpenSpec.upto fuseFirstSpec)) fuseFirstUptoCard

/-- THE SECOND FORM's CARD OF 'epitomelaw10.FuseDoes'. -/
def fuseDoesUptoCard : Claim7 := { stood := { row := fuseDoesUptoRow, standIns := [], harness := (true, "8fb316f5ff7554be16da48bf4668a02c6c874877236834196521f490ba2e0f73"), looks := false }, kinds := [], alts := [], laidByText := true, laidKinds := [.data, .data, .pinned], laidTests := true, laidLooks := .later }
def FuseDoesUptoCardSaid : Prop := Claim7.holds Tryd.pinned (.plain (OpenSpec.upto fuseDoesSpec)) fuseDoesUptoCard

/-- THE SECOND FORM's CARD OF 'epitomelaw13.ThroughAll'. -/
def throughAllUptoCard : Claim7 := { stood := { row := throughAllUptoRow, standIns := [], harness := (true, "8fb316f5ff7554be16da48bf4668a02c6c874877236834196521f490ba2e0f73"), looks := false }, kinds := [], alts := [], laidByText := true, laidKinds := [.data, .data, .pinned], laidTests := true, laidLooks := .later }
def ThroughAllUptoCardSaid : Prop := Claim7.holds Tryd.pinned (.plain (OpenSpec.upto throughAllSpec)) throughAllUptoCard

/-- THE SECOND FORM's CARD OF 'epitomelaw13.ThroughParts'. -/
def throughPartsUptoCard : Claim7 := { stood := { row := throughPartsUptoRow, standIns := [], harness := (true, "8fb316f5ff7554be16da48bf4668a02c6c874877236834196521f490ba2e0f73"), looks := false }, kinds := [], alts := [], laidByText := true, laidKinds := [.data, .data, .pinned], laidTests := true, laidLooks := .later }
def ThroughPartsUptoCardSaid : Prop := Claim7.holds Tryd.pinned (.plain (OpenSpec.upto throughPartsSpec)) throughPartsUptoCard

/-- THE SECOND FORM's CARD OF 'epitomelaw13.ThroughNone'. -/
def throughNoneUptoCard : Claim7 := { stood := { row := throughNoneUptoRow, standIns := [], harness := (true, "8fb316f5ff7554be16da48bf4668a02c6c874877236834196521f490ba2e0f73"), looks := false }, kinds := [], alts := [], laidByText := true, laidKinds := [.data, .data, .pinned], laidTests := true, laidLooks := .later }
def ThroughNoneUptoCardSaid : Prop := Claim7.holds Tryd.pinned (.plain (OpenSpec.upto throughNoneSpec)) throughNoneUptoCard

/-- THE SECOND FORM's CARD OF 'epitomelaw13.ThroughSteps'. -/
def throughStepsUptoCard : Claim7 := { stood := { row := throughStepsUptoRow, standIns := [], harness := (true, "8fb316f5ff7554be16da48bf4668a02c6c874877236834196521f490ba2e0f73"), looks := false }, kinds := [], alts := [], laidByText := true, laidKinds := [.data, .data, .pinned], laidTests := true, laidLooks := .later }
def ThroughStepsUptoCardSaid : Prop := Claim7.holds Tryd.pinned (.plain (OpenSpec.upto throughStepsSpec)) throughStepsUptoCard

/-- THE SECOND FORM's CARD OF 'epitomelaw13.ThroughMeets'. -/
def throughMeetsUptoCard : Claim7 := { stood := { row := throughMeetsUptoRow, standIns := [], harness := (true, "8fb316f5ff7554be16da48bf4668a02c6c874877236834196521f490ba2e0f73"), looks := false }, kinds := [], alts := [], laidByText := true, laidKinds := [.data, .data, .pinned], laidTests := true, laidLooks := .later }
def ThroughMeetsUptoCardSaid : Prop := Claim7.holds Tryd.pinned (.plain (OpenSpec.upto throughMeetsSpec)) throughMeetsUptoCard
end Rows
end Go.Proofs.YthhgobiaecehbaaDoor
