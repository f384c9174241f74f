/-
  DERIVED. GIVEN WITH THE SEED: THE CARDS: each row of YtococcgeoknmjabGreatDoorRows.lean that lists a variable, with what it lists TIED to the program's text (the seventh form; the later family's looks); each row that meets fmt, with fmt's text TOLD by the authors' own Lean function (tested against real Go, not proved from fmt's source: count such statements apart). THE CARD IS WHAT COUNTS. Prove the row's statement (the work); the ties are given (YtococcgeoknmjabGreatDoorTie.lean); close each card by the builder's one call (the guide's Derived/Test/ToyasCard.lean, 'card_holds'). Laid BY PROGRAM, IN A SANDBOX (cutbox-door.mjs). By AI agents, Wed Nov 11 2026. No macro, syntax, notation, axiom, sorry.
-/
import Derived.Test.YtococcgeoknmjabGreatDoorRows
import GoSem.ClaimSeven
namespace Go.Proofs.YtococcgeoknmjabGreatDoor
namespace Rows

/-- THE TIED CARD OF 'sutlerlaw04.ReqsOrder'. -/
def reqsOrderCard : Claim7 := { stood := { row := reqsOrderRow, standIns := [], harness := (true, "4e2544544ffec90c6908e78be430d31fe8c33a0ebe903f91688f8c366c18a3f2"), looks := true }, kinds := [], alts := [], laidByText := true, laidKinds := [.data, .data, .data, .sentinel, .sentinel], laidTests := true, laidLooks := .later }
def ReqsOrderCardSaid : Prop := Claim7.holds Tryz.pinned (.plain (OpenSpec.ofChange reqsOrderSpec)) reqsOrderCard

/-- THE SECOND FORM's CARD OF 'sutlerlaw04.ReqsOrder'. -/
def reqsOrderUptoCard : Claim7 := { stood := { row := reqsOrderUptoRow, standIns := [], harness := (true, "4e2544544ffec90c6908e78be430d31fe8c33a0ebe903f91688f8c366c18a3f2"), looks := true }, kinds := [], alts := [], laidByText := true, laidKinds := [.data, .data, .data, .sentinel, .sentinel], laidTests := true, laidLooks := .later }
def ReqsOrderUptoCardSaid : Prop := Claim7.holds Tryz.pinned (.plain (OpenSpec.upto reqsOrderSpec)) reqsOrderUptoCard
end Rows
end Go.Proofs.YtococcgeoknmjabGreatDoor
