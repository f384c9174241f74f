/-
  DERIVED. GIVEN WITH THE SEED: THE CARDS: each row of YtnbdmjbpgaeacaaGreatDoorRows.lean that lists a variable, with what it lists TIED to the program's text (the seventh form; the later family's looks); each row that meets fmt, with fmt's text TOLD by the authors' own Lean function (tested against real Go, not proved from fmt's source: count such statements apart). THE CARD IS WHAT COUNTS. Prove the row's statement (the work); the ties are given (YtnbdmjbpgaeacaaGreatDoorTie.lean); close each card by the builder's one call (the guide's Derived/Test/ToyasCard.lean, 'card_holds'). Laid BY PROGRAM, IN A SANDBOX (cutbox-door.mjs). By AI agents, Wed Nov 11 2026. No macro, syntax, notation, axiom, sorry.
-/
import Derived.Test.YtnbdmjbpgaeacaaGreatDoorRows
import GoSem.ClaimSeven
namespace Go.Proofs.YtnbdmjbpgaeacaaGreatDoor
namespace Rows

/-- THE TIED CARD OF 'sutlerlaw21.BudgetTells'. -/
def budgetTellsCard : Claim7 := { stood := { row := budgetTellsRow, standIns := [], harness := (true, "12857ace036f4670686d1961319b34f0a5366c5768523ec50e0dce2bf56e83df"), looks := true }, kinds := [], alts := [], laidByText := true, laidKinds := [.data, .data, .data, .sentinel, .sentinel], laidTests := true, laidLooks := .later }
def BudgetTellsCardSaid : Prop := Claim7.holds Tryz.pinned (.plain (OpenSpec.ofChange budgetTellsSpec)) budgetTellsCard

/-- THE TIED CARD OF 'sutlerlaw21.BudgetLess'. -/
def budgetLessCard : Claim7 := { stood := { row := budgetLessRow, standIns := [], harness := (true, "12857ace036f4670686d1961319b34f0a5366c5768523ec50e0dce2bf56e83df"), looks := true }, kinds := [], alts := [], laidByText := true, laidKinds := [.data, .data, .data, .sentinel, .sentinel], laidTests := true, laidLooks := .later }
def BudgetLessCardSaid : Prop := Claim7.holds Tryz.pinned (.plain (OpenSpec.ofChange budgetLessSpec)) budgetLessCard

/-- THE TIED CARD OF 'sutlerlaw21.BudgetMarks'. -/
def budgetMarksCard : Claim7 := { stood := { row := budgetMarksRow, standIns := [], harness := (true, "12857ace036f4670686d1961319b34f0a5366c5768523ec50e0dce2bf56e83df"), looks := true }, kinds := [], alts := [], laidByText := true, laidKinds := [.data, .data, .data, .sentinel, .sentinel], laidTests := true, laidLooks := .later }
def BudgetMarksCardSaid : Prop := Claim7.holds Tryz.pinned (.plain (OpenSpec.ofChange budgetMarksSpec)) budgetMarksCard

/-- THE TIED CARD OF 'sutlerlaw21.BudgetCounts'. -/
def budgetCountsCard : Claim7 := { stood := { row := budgetCountsRow, standIns := [], harness := (true, "12857ace036f4670686d1961319b34f0a5366c5768523ec50e0dce2bf56e83df"), looks := true }, kinds := [], alts := [], laidByText := true, laidKinds := [.data, .data, .data, .sentinel, .sentinel], laidTests := true, laidLooks := .later }
def BudgetCountsCardSaid : Prop := Claim7.holds Tryz.pinned (.plain (OpenSpec.ofChange budgetCountsSpec)) budgetCountsCard

/-- THE TIED CARD OF 'sutlerlaw16.NearNear'. -/
def nearNearCard : Claim7 := { stood := { row := nearNearRow, standIns := [], harness := (true, "12857ace036f4670686d1961319b34f0a5366c5768523ec50e0dce2bf56e83df"), looks := true }, kinds := [], alts := [], laidByText := true, laidKinds := [.data, .data, .data, .sentinel, .sentinel], laidTests := true, laidLooks := .later }
def NearNearCardSaid : Prop := Claim7.holds Tryz.pinned (.plain (OpenSpec.ofChange nearNearSpec)) nearNearCard

/-- THE TIED CARD OF 'sutlerlaw16.NearApart'. -/
def nearApartCard : Claim7 := { stood := { row := nearApartRow, standIns := [], harness := (true, "12857ace036f4670686d1961319b34f0a5366c5768523ec50e0dce2bf56e83df"), looks := true }, kinds := [], alts := [], laidByText := true, laidKinds := [.data, .data, .data, .sentinel, .sentinel], laidTests := true, laidLooks := .later }
def NearApartCardSaid : Prop := Claim7.holds Tryz.pinned (.plain (OpenSpec.ofChange nearApartSpec)) nearApartCard

/-- THE TIED CARD OF 'sutlerlaw16.NearBoth'. -/
def nearBothCard : Claim7 := { stood := { row := nearBothRow, standIns := [], harness := (true, "12857ace036f4670686d1961319b34f0a5366c5768523ec50e0dce2bf56e83df"), looks := true }, kinds := [], alts := [], laidByText := true, laidKinds := [.data, .data, .data, .sentinel, .sentinel], laidTests := true, laidLooks := .later }
def NearBothCardSaid : Prop := Claim7.holds Tryz.pinned (.plain (OpenSpec.ofChange nearBothSpec)) nearBothCard

/-- THE TIED CARD OF 'sutlerlaw16.NearAlone'. -/
def nearAloneCard : Claim7 := { stood := { row := nearAloneRow, standIns := [], harness := (true, "12857ace036f4670686d1961319b34f0a5366c5768523ec50e0dce2bf56e83df"), looks := true }, kinds := [], alts := [], laidByText := true, laidKinds := [.data, .data, .data, .sentinel, .sentinel], laidTests := true, laidLooks := .later }
def NearAloneCardSaid : Prop := Claim7.holds Tryz.pinned (.plain (OpenSpec.ofChange nearAloneSpec)) nearAloneCard

/-- THE TIED CARD OF 'sutlerlaw16.NearLess'. -/
def nearLessCard : Claim7 := { stood := { row := nearLessRow, standIns := [], harness := (true, "12857ace036f4670686d1961319b34f0a5366c5768523ec50e0dce2bf56e83df"), looks := true }, kinds := [], alts := [], laidByText := true, laidKinds := [.data, .data, .data, .sentinel, .sentinel], laidTests := true, laidLooks := .later }
def NearLessCardSaid : Prop := Claim7.holds Tryz.pinned (.plain (OpenSpec.ofChange nearLessSpec)) nearLessCard

/-- THE TIED CARD OF 'sutlerlaw15.SpreadDomains'. -/
def spreadDomainsCard : Claim7 := { stood := { row := spreadDomainsRow, standIns := [], harness := (true, "12857ace036f4670686d1961319b34f0a5366c5768523ec50e0dce2bf56e83df"), looks := true }, kinds := [], alts := [], laidByText := true, laidKinds := [.data, .data, .data, .sentinel, .sentinel], laidTests := true, laidLooks := .later }
def SpreadDomainsCardSaid : Prop := Claim7.holds Tryz.pinned (.plain (OpenSpec.ofChange spreadDomainsSpec)) spreadDomainsCard

/-- THE TIED CARD OF 'sutlerlaw15.SpreadFits'. -/
def spreadFitsCard : Claim7 := { stood := { row := spreadFitsRow, standIns := [], harness := (true, "12857ace036f4670686d1961319b34f0a5366c5768523ec50e0dce2bf56e83df"), looks := true }, kinds := [], alts := [], laidByText := true, laidKinds := [.data, .data, .data, .sentinel, .sentinel], laidTests := true, laidLooks := .later }
def SpreadFitsCardSaid : Prop := Claim7.holds Tryz.pinned (.plain (OpenSpec.ofChange spreadFitsSpec)) spreadFitsCard

/-- THE TIED CARD OF 'sutlerlaw15.SpreadMore'. -/
def spreadMoreCard : Claim7 := { stood := { row := spreadMoreRow, standIns := [], harness := (true, "12857ace036f4670686d1961319b34f0a5366c5768523ec50e0dce2bf56e83df"), looks := true }, kinds := [], alts := [], laidByText := true, laidKinds := [.data, .data, .data, .sentinel, .sentinel], laidTests := true, laidLooks := .later }
def SpreadMoreCardSaid : Prop := Claim7.holds Tryz.pinned (.plain (OpenSpec.ofChange spreadMoreSpec)) spreadMoreCard

/-- THE TIED CARD OF 'sutlerlaw15.SpreadLeast'. -/
def spreadLeastCard : Claim7 := { stood := { row := spreadLeastRow, standIns := [], harness := (true, "12857ace036f4670686d1961319b34f0a5366c5768523ec50e0dce2bf56e83df"), looks := true }, kinds := [], alts := [], laidByText := true, laidKinds := [.data, .data, .data, .sentinel, .sentinel], laidTests := true, laidLooks := .later }
def SpreadLeastCardSaid : Prop := Claim7.holds Tryz.pinned (.plain (OpenSpec.ofChange spreadLeastSpec)) spreadLeastCard

/-- THE TIED CARD OF 'sutlerlaw15.SpreadCounts'. -/
def spreadCountsCard : Claim7 := { stood := { row := spreadCountsRow, standIns := [], harness := (true, "12857ace036f4670686d1961319b34f0a5366c5768523ec50e0dce2bf56e83df"), looks := true }, kinds := [], alts := [], laidByText := true, laidKinds := [.data, .data, .data, .sentinel, .sentinel], laidTests := true, laidLooks := .later }
def SpreadCountsCardSaid : Prop := Claim7.holds Tryz.pinned (.plain (OpenSpec.ofChange spreadCountsSpec)) spreadCountsCard

/-- THE TIED CARD OF 'sutlerlaw17.FitWhy'. -/
def fitWhyCard : Claim7 := { stood := { row := fitWhyRow, standIns := [], harness := (true, "12857ace036f4670686d1961319b34f0a5366c5768523ec50e0dce2bf56e83df"), looks := true }, kinds := [], alts := [], laidByText := true, laidKinds := [.data, .data, .data, .sentinel, .sentinel], laidTests := true, laidLooks := .later }
def FitWhyCardSaid : Prop := Claim7.holds Tryz.pinned (.plain (OpenSpec.ofChange fitWhySpec)) fitWhyCard

/-- THE TIED CARD OF 'sutlerlaw17.FitLayers'. -/
def fitLayersCard : Claim7 := { stood := { row := fitLayersRow, standIns := [], harness := (true, "12857ace036f4670686d1961319b34f0a5366c5768523ec50e0dce2bf56e83df"), looks := true }, kinds := [], alts := [], laidByText := true, laidKinds := [.data, .data, .data, .sentinel, .sentinel], laidTests := true, laidLooks := .later }
def FitLayersCardSaid : Prop := Claim7.holds Tryz.pinned (.plain (OpenSpec.ofChange fitLayersSpec)) fitLayersCard

/-- THE TIED CARD OF 'sutlerlaw17.FitLess'. -/
def fitLessCard : Claim7 := { stood := { row := fitLessRow, standIns := [], harness := (true, "12857ace036f4670686d1961319b34f0a5366c5768523ec50e0dce2bf56e83df"), looks := true }, kinds := [], alts := [], laidByText := true, laidKinds := [.data, .data, .data, .sentinel, .sentinel], laidTests := true, laidLooks := .later }
def FitLessCardSaid : Prop := Claim7.holds Tryz.pinned (.plain (OpenSpec.ofChange fitLessSpec)) fitLessCard

/-- THE TIED CARD OF 'sutlerlaw17.FitAgain'. -/
def fitAgainCard : Claim7 := { stood := { row := fitAgainRow, standIns := [], harness := (true, "12857ace036f4670686d1961319b34f0a5366c5768523ec50e0dce2bf56e83df"), looks := true }, kinds := [], alts := [], laidByText := true, laidKinds := [.data, .data, .data, .sentinel, .sentinel], laidTests := true, laidLooks := .later }
def FitAgainCardSaid : Prop := Claim7.holds Tryz.pinned (.plain (OpenSpec.ofChange fitAgainSpec)) fitAgainCard

/-- THE SECOND FORM's CARD OF 'sutlerlaw21.BudgetTells'. -/
def budgetTellsUptoCard : Claim7 := { stood := { row := budgetTellsUptoRow, standIns := [], harness := (true, "12857ace036f4670686d1961319b34f0a5366c5768523ec50e0dce2bf56e83df"), looks := true }, kinds := [], alts := [], laidByText := true, laidKinds := [.data, .data, .data, .sentinel, .sentinel], laidTests := true, laidLooks := .later }
def BudgetTellsUptoCardSaid : Prop := Claim7.holds Tryz.pinned (.plain (OpenSpec.upto budgetTellsSpec)) budgetTellsUptoCard

/-- THE SECOND FORM's CARD OF 'sutlerlaw21.BudgetLess'. -/
def budgetLessUptoCard : Claim7 := { stood := { row := budgetLessUptoRow, standIns := [], harness := (true, "12857ace036f4670686d1961319b34f0a5366c5768523ec50e0dce2bf56e83df"), looks := true }, kinds := [], alts := [], laidByText := true, laidKinds := [.data, .data, .data, .sentinel, .sentinel], laidTests := true, laidLooks := .later }
def BudgetLessUptoCardSaid : Prop := Claim7.holds Tryz.pinned (.plain (OpenSpec.upto budgetLessSpec)) budgetLessUptoCard

/-- THE SECOND FORM's CARD OF 'sutlerlaw21.BudgetMarks'. -/
def budgetMarksUptoCard : Claim7 := { stood := { row := budgetMarksUptoRow, standIns := [], harness := (true, "12857ace036f4670686d1961319b34f0a5366c5768523ec50e0dce2bf56e83df"), looks := true }, kinds := [], alts := [], laidByText := true, laidKinds := [.data, .data, .data, .sentinel, .sentinel], laidTests := true, laidLooks := .later }
def BudgetMarksUptoCardSaid : Prop := Claim7.holds Tryz.pinned (.plain (OpenSpec.upto budgetMarksSpec)) budgetMarksUptoCard

/-- THE SECOND FORM's CARD OF 'sutlerlaw21.BudgetCounts'. -/
def budgetCountsUptoCard : Claim7 := { stood := { row := budgetCountsUptoRow, standIns := [], harness := (true, "12857ace036f4670686d1961319b34f0a5366c5768523ec50e0dce2bf56e83df"), looks := true }, kinds := [], alts := [], laidByText := true, laidKinds := [.data, .data, .data, .sentinel, .sentinel], laidTests := true, laidLooks := .later }
def BudgetCountsUptoCardSaid : Prop := Claim7.holds Tryz.pinned (.plain (OpenSpec.upto budgetCountsSpec)) budgetCountsUptoCard

/-- THE SECOND FORM's CARD OF 'sutlerlaw16.NearNear'. -/
def nearNearUptoCard : Claim7 := { stood := { row := nearNearUptoRow, standIns := [], harness := (true, "12857ace036f4670686d1961319b34f0a5366c5768523ec50e0dce2bf56e83df"), looks := true }, kinds := [], alts := [], laidByText := true, laidKinds := [.data, .data, .data, .sentinel, .sentinel], laidTests := true, laidLooks := .later }
def NearNearUptoCardSaid : Prop := Claim7.holds Tryz.pinned (.plain (OpenSpec.upto nearNearSpec)) nearNearUptoCard

/-- THE SECOND FORM's CARD OF 'sutlerlaw16.NearApart'. -/
def nearApartUptoCard : Claim7 := { stood := { row := nearApartUptoRow, standIns := [], harness := (true, "12857ace036f4670686d1961319b34f0a5366c5768523ec50e0dce2bf56e83df"), looks := true }, kinds := [], alts := [], laidByText := true, laidKinds := [.data, .data, .data, .sentinel, .sentinel], laidTests := true, laidLooks := .later }
def NearApartUptoCardSaid : Prop := Claim7.holds Tryz.pinned (.plain (OpenSpec.upto nearApartSpec)) nearApartUptoCard

/-- THE SECOND FORM's CARD OF 'sutlerlaw16.NearBoth'. -/
def nearBothUptoCard : Claim7 := { stood := { row := nearBothUptoRow, standIns := [], harness := (true, "12857ace036f4670686d1961319b34f0a5366c5768523ec50e0dce2bf56e83df"), looks := true }, kinds := [], alts := [], laidByText := true, laidKinds := [.data, .data, .data, .sentinel, .sentinel], laidTests := true, laidLooks := .later }
def NearBothUptoCardSaid : Prop := Claim7.holds Tryz.pinned (.plain (OpenSpec.upto nearBothSpec)) nearBothUptoCard

/-- THE SECOND FORM's CARD OF 'sutlerlaw16.NearAlone'. -/
def nearAloneUptoCard : Claim7 := { stood := { row := nearAloneUptoRow, standIns := [], harness := (true, "12857ace036f4670686d1961319b34f0a5366c5768523ec50e0dce2bf56e83df"), looks := true }, kinds := [], alts := [], laidByText := true, laidKinds := [.data, .data, .data, .sentinel, .sentinel], laidTests := true, laidLooks := .later }
def NearAloneUptoCardSaid : Prop := Claim7.holds Tryz.pinned (.plain (OpenSpec.upto nearAloneSpec)) nearAloneUptoCard

/-- THE SECOND FORM's CARD OF 'sutlerlaw16.NearLess'. -/
def nearLessUptoCard : Claim7 := { stood := { row := nearLessUptoRow, standIns := [], harness := (true, "12857ace036f4670686d1961319b34f0a5366c5768523ec50e0dce2bf56e83df"), looks := true }, kinds := [], alts := [], laidByText := true, laidKinds := [.data, .data, .data, .sentinel, .sentinel], laidTests := true, laidLooks := .later }
def NearLessUptoCardSaid : Prop := Claim7.holds Tryz.pinned (.plain (OpenSpec.upto nearLessSpec)) nearLessUptoCard

/-- THE SECOND FORM's CARD OF 'sutlerlaw15.SpreadDomains'. -/
def spreadDomainsUptoCard : Claim7 := { stood := { row := spreadDomainsUptoRow, standIns := [], harness := (true, "12857ace036f4670686d1961319b34f0a5366c5768523ec50e0dce2bf56e83df"), looks := true }, kinds := [], alts := [], laidByText := true, laidKinds := [.data, .data, .data, .sentinel, .sentinel], laidTests := true, laidLooks := .later }
def SpreadDomainsUptoCardSaid : Prop := Claim7.holds Tryz.pinned (.plain (OpenSpec.upto spreadDomainsSpec)) spreadDomainsUptoCard

/-- THE SECOND FORM's CARD OF 'sutlerlaw15.SpreadFits'. -/
def spreadFitsUptoCard : Claim7 := { stood := { row := spreadFitsUptoRow, standIns := [], harness := (true, "12857ace036f4670686d1961319b34f0a5366c5768523ec50e0dce2bf56e83df"), looks := true }, kinds := [], alts := [], laidByText := true, laidKinds := [.data, .data, .data, .sentinel, .sentinel], laidTests := true, laidLooks := .later }
def SpreadFitsUptoCardSaid : Prop := Claim7.holds Tryz.pinned (.plain (OpenSpec.upto spreadFitsSpec)) spreadFitsUptoCard

/-- THE SECOND FORM's CARD OF 'sutlerlaw15.SpreadMore'. -/
def spreadMoreUptoCard : Claim7 := { stood := { row := spreadMoreUptoRow, standIns := [], harness := (true, "12857ace036f4670686d1961319b34f0a5366c5768523ec50e0dce2bf56e83df"), looks := true }, kinds := [], alts := [], laidByText := true, laidKinds := [.data, .data, .data, .sentinel, .sentinel], laidTests := true, laidLooks := .later }
def SpreadMoreUptoCardSaid : Prop := Claim7.holds Tryz.pinned (.plain (OpenSpec.upto spreadMoreSpec)) spreadMoreUptoCard

/-- THE SECOND FORM's CARD OF 'sutlerlaw15.SpreadLeast'. -/
def spreadLeastUptoCard : Claim7 := { stood := { row := spreadLeastUptoRow, standIns := [], harness := (true, "12857ace036f4670686d1961319b34f0a5366c5768523ec50e0dce2bf56e83df"), looks := true }, kinds := [], alts := [], laidByText := true, laidKinds := [.data, .data, .data, .sentinel, .sentinel], laidTests := true, laidLooks := .later }
def SpreadLeastUptoCardSaid : Prop := Claim7.holds Tryz.pinned (.plain (OpenSpec.upto spreadLeastSpec)) spreadLeastUptoCard

/-- THE SECOND FORM's CARD OF 'sutlerlaw15.SpreadCounts'. -/
def spreadCountsUptoCard : Claim7 := { stood := { row := spreadCountsUptoRow, standIns := [], harness := (true, "12857ace036f4670686d1961319b34f0a5366c5768523ec50e0dce2bf56e83df"), looks := true }, kinds := [], alts := [], laidByText := true, laidKinds := [.data, .data, .data, .sentinel, .sentinel], laidTests := true, laidLooks := .later }
def SpreadCountsUptoCardSaid : Prop := Claim7.holds Tryz.pinned (.plain (OpenSpec.upto spreadCountsSpec)) spreadCountsUptoCard

/-- THE SECOND FORM's CARD OF 'sutlerlaw17.FitWhy'. -/
def fitWhyUptoCard : Claim7 := { stood := { row := fitWhyUptoRow, standIns := [], harness := (true, "12857ace036f4670686d1961319b34f0a5366c5768523ec50e0dce2bf56e83df"), looks := true }, kinds := [], alts := [], laidByText := true, laidKinds := [.data, .data, .data, .sentinel, .sentinel], laidTests := true, laidLooks := .later }
def FitWhyUptoCardSaid : Prop := Claim7.holds Tryz.pinned (.plain (OpenSpec.upto fitWhySpec)) fitWhyUptoCard

/-- THE SECOND FORM's CARD OF 'sutlerlaw17.FitLayers'. -/
def fitLayersUptoCard : Claim7 := { stood := { row := fitLayersUptoRow, standIns := [], harness := (true, "12857ace036f4670686d1961319b34f0a5366c5768523ec50e0dce2bf56e83df"), looks := true }, kinds := [], alts := [], laidByText := true, laidKinds := [.data, .data, .data, .sentinel, .sentinel], laidTests := true, laidLooks := .later }
def FitLayersUptoCardSaid : Prop := Claim7.holds Tryz.pinned (.plain (OpenSpec.upto fitLayersSpec)) fitLayersUptoCard

/-- THE SECOND FORM's CARD OF 'sutlerlaw17.FitLess'. -/
def fitLessUptoCard : Claim7 := { stood := { row := fitLessUptoRow, standIns := [], harness := (true, "12857ace036f4670686d1961319b34f0a5366c5768523ec50e0dce2bf56e83df"), looks := true }, kinds := [], alts := [], laidByText := true, laidKinds := [.data, .data, .data, .sentinel, .sentinel], laidTests := true, laidLooks := .later }
def FitLessUptoCardSaid : Prop := Claim7.holds Tryz.pinned (.plain (OpenSpec.upto fitLessSpec)) fitLessUptoCard

/-- THE SECOND FORM's CARD OF 'sutlerlaw17.FitAgain'. -/
def fitAgainUptoCard : Claim7 := { stood := { row := fitAgainUptoRow, standIns := [], harness := (true, "12857ace036f4670686d1961319b34f0a5366c5768523ec50e0dce2bf56e83df"), looks := true }, kinds := [], alts := [], laidByText := true, laidKinds := [.data, .data, .data, .sentinel, .sentinel], laidTests := true, laidLooks := .later }
def FitAgainUptoCardSaid : Prop := Claim7.holds Tryz.pinned (.plain (OpenSpec.upto fitAgainSpec)) fitAgainUptoCard
end Rows
end Go.Proofs.YtnbdmjbpgaeacaaGreatDoor
