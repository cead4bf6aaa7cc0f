/-
  DERIVED. GIVEN WITH THE SEED: THE CARDS: each row of YtabodcedlhahfaaDoorRows.lean that lists a variable, with what it lists TIED to the program's text (the seventh form; the later family's looks); each row that meets fmt, with fmt's text TOLD by the authors' own Lean function (tested against real Go, not proved from fmt's source: count such statements apart). THE CARD IS WHAT COUNTS. Prove the row's statement (the work); the ties are given (YtabodcedlhahfaaDoorTie.lean); close each card by the builder's one call (the guide's Derived/Test/ToyasCard.lean, 'card_holds'). Laid BY PROGRAM, IN A SANDBOX (cutbox-door.mjs). By AI agents, Wed Nov 11 2026. No macro, syntax, notation, axiom, sorry.
-/
import Derived.Test.YtabodcedlhahfaaDoorRows
import GoSem.ClaimSeven
namespace Go.Proofs.YtabodcedlhahfaaDoor
namespace Rows

/-- THE TIED CARD OF 'epitomelaw12.UnderTie'. -/
def underTieCard : Claim7 := { stood := { row := underTieRow, standIns := [], harness := (true, "c2251930897601772addbf6c1a442b84cebd7f45a12749bf08b797a7bafbc561"), looks := false }, kinds := [], alts := [], laidByText := true, laidKinds := [.data, .data, .pinned], laidTests := true, laidLooks := .later }
def UnderTieCardSaid : Prop := Claim7.holds Tryd.pinned (.plain (OpenSpec.ofChange underTieSpec)) underTieCard

/-- THE TIED CARD OF 'epitomelaw12.UnderAll'. -/
def underAllCard : Claim7 := { stood := { row := underAllRow, standIns := [], harness := (true, "c2251930897601772addbf6c1a442b84cebd7f45a12749bf08b797a7bafbc561"), looks := false }, kinds := [], alts := [], laidByText := true, laidKinds := [.data, .data, .pinned], laidTests := true, laidLooks := .later }
def UnderAllCardSaid : Prop := Claim7.holds Tryd.pinned (.plain (OpenSpec.ofChange underAllSpec)) underAllCard

/-- THE TIED CARD OF 'epitomelaw12.UnderDrops'. -/
def underDropsCard : Claim7 := { stood := { row := underDropsRow, standIns := [], harness := (true, "c2251930897601772addbf6c1a442b84cebd7f45a12749bf08b797a7bafbc561"), looks := false }, kinds := [], alts := [], laidByText := true, laidKinds := [.data, .data, .pinned], laidTests := true, laidLooks := .later }
def UnderDropsCardSaid : Prop := Claim7.holds Tryd.pinned (.plain (OpenSpec.ofChange underDropsSpec)) underDropsCard

/-- THE TIED CARD OF 'epitomelaw12.UnderKeeps'. -/
def underKeepsCard : Claim7 := { stood := { row := underKeepsRow, standIns := [], harness := (true, "c2251930897601772addbf6c1a442b84cebd7f45a12749bf08b797a7bafbc561"), looks := false }, kinds := [], alts := [], laidByText := true, laidKinds := [.data, .data, .pinned], laidTests := true, laidLooks := .later }
def UnderKeepsCardSaid : Prop := Claim7.holds Tryd.pinned (.plain (OpenSpec.ofChange underKeepsSpec)) underKeepsCard

/-- THE TIED CARD OF 'epitomelaw12.UnderMeets'. -/
def underMeetsCard : Claim7 := { stood := { row := underMeetsRow, standIns := [], harness := (true, "c2251930897601772addbf6c1a442b84cebd7f45a12749bf08b797a7bafbc561"), looks := false }, kinds := [], alts := [], laidByText := true, laidKinds := [.data, .data, .pinned], laidTests := true, laidLooks := .later }
def UnderMeetsCardSaid : Prop := Claim7.holds Tryd.pinned (.plain (OpenSpec.ofChange underMeetsSpec)) underMeetsCard

/-- THE TIED CARD OF 'epitomelaw12.UnderChain'. -/
def underChainCard : Claim7 := { stood := { row := underChainRow, standIns := [], harness := (true, "c2251930897601772addbf6c1a442b84cebd7f45a12749bf08b797a7bafbc561"), looks := false }, kinds := [], alts := [], laidByText := true, laidKinds := [.data, .data, .pinned], laidTests := true, laidLooks := .later }
def UnderChainCardSaid : Prop := Claim7.holds Tryd.pinned (.plain (OpenSpec.ofChange underChainSpec)) underChainCard

/-- THE SECOND FORM's CARD OF 'epitomelaw12.UnderTie'. -/
def underTieUptoCard : Claim7 := { stood := { row := underTieUptoRow, standIns := [], harness := (true, "c2251930897601772addbf6c1a442b84cebd7f45a12749bf08b797a7bafbc561"), looks := false }, kinds := [], alts := [], laidByText := true, laidKinds := [.data, .data, .pinned], laidTests := true, laidLooks := .later }
def UnderTieUptoCardSaid : Prop := Claim7.holds Tryd.pinned (.plain (OpenSpec.upto underTieSpec)) underTieUptoCard

/-- THE SECOND FORM's CARD OF 'epitomelaw12.UnderAll'. -/
def underAllUptoCard : Claim7 := { stood := { row := underAllUptoRow, standIns := [], harness := (true, "c2251930897601772addbf6c1a442b84cebd7f45a12749bf08b797a7bafbc561"), looks := false }, kinds := [], alts := [], laidByText := true, laidKinds := [.data, .data, .pinned], laidTests := true, laidLooks := .later }
def UnderAllUptoCardSaid : Prop := Claim7.holds Tryd.pinned (.plain (OpenSpec.upto underAllSpec)) underAllUptoCard

/-- THE SECOND FORM's CARD OF 'epitomelaw12.UnderDrops'. -/
def underDropsUptoCard : Claim7 := { stood := { row := underDropsUptoRow, standIns := [], harness := (true, "c2251930897601772addbf6c1a442b84cebd7f45a12749bf08b797a7bafbc561"), looks := false }, kinds := [], alts := [], laidByText := true, laidKinds := [.data, .data, .pinned], laidTests := true, laidLooks := .later }
def UnderDropsUptoCardSaid : Prop := Claim7.holds Tryd.pinned (.plain (OpenSpec.upto underDropsSpec)) underDropsUptoCard

/-- THE SECOND FORM's CARD OF 'epitomelaw12.UnderKeeps'. -/
def underKeepsUptoCard : Claim7 := { stood := { row := underKeepsUptoRow, standIns := [], harness := (true, "c2251930897601772addbf6c1a442b84cebd7f45a12749bf08b797a7bafbc561"), looks := false }, kinds := [], alts := [], laidByText := true, laidKinds := [.data, .data, .pinned], laidTests := true, laidLooks := .later }
def UnderKeepsUptoCardSaid : Prop := Claim7.holds Tryd.pinned (.plain (OpenSpec.upto underKeepsSpec)) underKeepsUptoCard

/-- THE SECOND FORM's CARD OF 'epitomelaw12.UnderMeets'. -/
def underMeetsUptoCard : Claim7 := { stood := { row := underMeetsUptoRow, standIns := [], harness := (true, "c2251930897601772addbf6c1a442b84cebd7f45a12749bf08b797a7bafbc561"), looks := false }, kinds := [], alts := [], laidByText := true, laidKinds := [.data, .data, .pinned], laidTests := true, laidLooks := .later }
def UnderMeetsUptoCardSaid : Prop := Claim7.holds Tryd.pinned (.plain (OpenSpec.upto underMeetsSpec)) underMeetsUptoCard

/-- THE SECOND FORM's CARD OF 'epitomelaw12.UnderChain'. -/
def underChainUptoCard : Claim7 := { stood := { row := underChainUptoRow, standIns := [], harness := (true, "c2251930897601772addbf6c1a442b84cebd7f45a12749bf08b797a7bafbc561"), looks := false }, kinds := [], alts := [], laidByText := true, laidKinds := [.data, .data, .pinned], laidTests := true, laidLooks := .later }
def UnderChainUptoCardSaid : Prop := Claim7.holds Tryd.pinned (.plain (OpenSpec.upto underChainSpec)) underChainUptoCard
end Rows
end Go.Proofs.YtabodcedlhahfaaDoor
