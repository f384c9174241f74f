/-
  DERIVED. GIVEN WITH THE SEED: THE CARDS: each row of YteaklhcejjiinaaDoorRows.lean that lists a variable, with what it lists TIED to the program's text (the seventh form; the later family's looks); each row that meets fmt, with fmt's text TOLD by the authors' own Lean function (tested against real Go, not proved from fmt's source: count such statements apart). THE CARD IS WHAT COUNTS. Prove the row's statement (the work); the ties are given (YteaklhcejjiinaaDoorTie.lean); close each card by the builder's one call (the guide's Derived/Test/ToyasCard.lean, 'card_holds'). Laid BY PROGRAM, IN A SANDBOX (cutbox-door.mjs). By AI agents, Wed Nov 11 2026. No macro, syntax, notation, axiom, sorry.
-/
import Derived.Test.YteaklhcejjiinaaDoorRows
import GoSem.ClaimSeven
namespace Go.Proofs.YteaklhcejjiinaaDoor
namespace Rows

/-- THE TIED CARD OF 'sutlerlaw03.ValsetNumbers'. -/
def valsetNumbersCard : Claim7 := { stood := { row := valsetNumbersRow, standIns := [], harness := (true, "85bda12fb114d93d39a13df2dbfd59ce84337b56bfa338df057304b2de3f3825"), looks := true }, kinds := [], alts := [], laidByText := true, laidKinds := [.data, .data, .data, .sentinel, .sentinel], laidTests := true, laidLooks := .later }
def ValsetNumbersCardSaid : Prop := Claim7.holds Tryd.pinned (.plain (OpenSpec.ofChange valsetNumbersSpec)) valsetNumbersCard

/-- THE TIED CARD OF 'sutlerlaw03.ValsetTexts'. -/
def valsetTextsCard : Claim7 := { stood := { row := valsetTextsRow, standIns := [], harness := (true, "85bda12fb114d93d39a13df2dbfd59ce84337b56bfa338df057304b2de3f3825"), looks := true }, kinds := [], alts := [], laidByText := true, laidKinds := [.data, .data, .data, .sentinel, .sentinel], laidTests := true, laidLooks := .later }
def ValsetTextsCardSaid : Prop := Claim7.holds Tryd.pinned (.plain (OpenSpec.ofChange valsetTextsSpec)) valsetTextsCard

/-- THE TIED CARD OF 'sutlerlaw03.ValsetOf'. -/
def valsetOfCard : Claim7 := { stood := { row := valsetOfRow, standIns := [], harness := (true, "85bda12fb114d93d39a13df2dbfd59ce84337b56bfa338df057304b2de3f3825"), looks := true }, kinds := [], alts := [], laidByText := true, laidKinds := [.data, .data, .data, .sentinel, .sentinel], laidTests := true, laidLooks := .later }
def ValsetOfCardSaid : Prop := Claim7.holds Tryd.pinned (.plain (OpenSpec.ofChange valsetOfSpec)) valsetOfCard

/-- THE TIED CARD OF 'sutlerlaw03.ValsetChecks'. -/
def valsetChecksCard : Claim7 := { stood := { row := valsetChecksRow, standIns := [], harness := (true, "85bda12fb114d93d39a13df2dbfd59ce84337b56bfa338df057304b2de3f3825"), looks := true }, kinds := [], alts := [], laidByText := true, laidKinds := [.data, .data, .data, .sentinel, .sentinel], laidTests := true, laidLooks := .later }
def ValsetChecksCardSaid : Prop := Claim7.holds Tryd.pinned (.plain (OpenSpec.ofChange valsetChecksSpec)) valsetChecksCard

/-- THE TIED CARD OF 'sutlerlaw03.ValsetMeets'. -/
def valsetMeetsCard : Claim7 := { stood := { row := valsetMeetsRow, standIns := [], harness := (true, "85bda12fb114d93d39a13df2dbfd59ce84337b56bfa338df057304b2de3f3825"), looks := true }, kinds := [], alts := [], laidByText := true, laidKinds := [.data, .data, .data, .sentinel, .sentinel], laidTests := true, laidLooks := .later }
def ValsetMeetsCardSaid : Prop := Claim7.holds Tryd.pinned (.plain (OpenSpec.ofChange valsetMeetsSpec)) valsetMeetsCard

/-- THE TIED CARD OF 'sutlerlaw03.ValsetAdmits'. -/
def valsetAdmitsCard : Claim7 := { stood := { row := valsetAdmitsRow, standIns := [], harness := (true, "85bda12fb114d93d39a13df2dbfd59ce84337b56bfa338df057304b2de3f3825"), looks := true }, kinds := [], alts := [], laidByText := true, laidKinds := [.data, .data, .data, .sentinel, .sentinel], laidTests := true, laidLooks := .later }
def ValsetAdmitsCardSaid : Prop := Claim7.holds Tryd.pinned (.plain (OpenSpec.ofChange valsetAdmitsSpec)) valsetAdmitsCard

/-- THE TIED CARD OF 'sutlerlaw03.ValsetTurns'. -/
def valsetTurnsCard : Claim7 := { stood := { row := valsetTurnsRow, standIns := [], harness := (true, "85bda12fb114d93d39a13df2dbfd59ce84337b56bfa338df057304b2de3f3825"), looks := true }, kinds := [], alts := [], laidByText := true, laidKinds := [.data, .data, .data, .sentinel, .sentinel], laidTests := true, laidLooks := .later }
def ValsetTurnsCardSaid : Prop := Claim7.holds Tryd.pinned (.plain (OpenSpec.ofChange valsetTurnsSpec)) valsetTurnsCard

/-- THE TIED CARD OF 'sutlerlaw03.ValsetBoth'. -/
def valsetBothCard : Claim7 := { stood := { row := valsetBothRow, standIns := [], harness := (true, "85bda12fb114d93d39a13df2dbfd59ce84337b56bfa338df057304b2de3f3825"), looks := true }, kinds := [], alts := [], laidByText := true, laidKinds := [.data, .data, .data, .sentinel, .sentinel], laidTests := true, laidLooks := .later }
def ValsetBothCardSaid : Prop := Claim7.holds Tryd.pinned (.plain (OpenSpec.ofChange valsetBothSpec)) valsetBothCard

/-- THE TIED CARD OF 'sutlerlaw03.ValsetAsks'. -/
def valsetAsksCard : Claim7 := { stood := { row := valsetAsksRow, standIns := [], harness := (true, "85bda12fb114d93d39a13df2dbfd59ce84337b56bfa338df057304b2de3f3825"), looks := true }, kinds := [], alts := [], laidByText := true, laidKinds := [.data, .data, .data, .sentinel, .sentinel], laidTests := true, laidLooks := .later }
def ValsetAsksCardSaid : Prop := Claim7.holds Tryd.pinned (.plain (OpenSpec.ofChange valsetAsksSpec)) valsetAsksCard

/-- THE SECOND FORM's CARD OF 'sutlerlaw03.ValsetNumbers'. -/
def valsetNumbersUptoCard : Claim7 := { stood := { row := valsetNumbersUptoRow, standIns := [], harness := (true, "85bda12fb114d93d39a13df2dbfd59ce84337b56bfa338df057304b2de3f3825"), looks := true }, kinds := [], alts := [], laidByText := true, laidKinds := [.data, .data, .data, .sentinel, .sentinel], laidTests := true, laidLooks := .later }
def ValsetNumbersUptoCardSaid : Prop := Claim7.holds Tryd.pinned (.plain (OpenSpec.upto valsetNumbersSpec)) valsetNumbersUptoCard

/-- THE SECOND FORM's CARD OF 'sutlerlaw03.ValsetTexts'. -/
def valsetTextsUptoCard : Claim7 := { stood := { row := valsetTextsUptoRow, standIns := [], harness := (true, "85bda12fb114d93d39a13df2dbfd59ce84337b56bfa338df057304b2de3f3825"), looks := true }, kinds := [], alts := [], laidByText := true, laidKinds := [.data, .data, .data, .sentinel, .sentinel], laidTests := true, laidLooks := .later }
def ValsetTextsUptoCardSaid : Prop := Claim7.holds Tryd.pinned (.plain (OpenSpec.upto valsetTextsSpec)) valsetTextsUptoCard

/-- THE SECOND FORM's CARD OF 'sutlerlaw03.ValsetOf'. -/
def valsetOfUptoCard : Claim7 := { stood := { row := valsetOfUptoRow, standIns := [], harness := (true, "85bda12fb114d93d39a13df2dbfd59ce84337b56bfa338df057304b2de3f3825"), looks := true }, kinds := [], alts := [], laidByText := true, laidKinds := [.data, .data, .data, .sentinel, .sentinel], laidTests := true, laidLooks := .later }
def ValsetOfUptoCardSaid : Prop := Claim7.holds Tryd.pinned (.plain (OpenSpec.upto valsetOfSpec)) valsetOfUptoCard

/-- THE SECOND FORM's CARD OF 'sutlerlaw03.ValsetChecks'. -/
def valsetChecksUptoCard : Claim7 := { stood := { row := valsetChecksUptoRow, standIns := [], harness := (true, "85bda12fb114d93d39a13df2dbfd59ce84337b56bfa338df057304b2de3f3825"), looks := true }, kinds := [], alts := [], laidByText := true, laidKinds := [.data, .data, .data, .sentinel, .sentinel], laidTests := true, laidLooks := .later }
def ValsetChecksUptoCardSaid : Prop := Claim7.holds Tryd.pinned (.plain (OpenSpec.upto valsetChecksSpec)) valsetChecksUptoCard

/-- THE SECOND FORM's CARD OF 'sutlerlaw03.ValsetMeets'. -/
def valsetMeetsUptoCard : Claim7 := { stood := { row := valsetMeetsUptoRow, standIns := [], harness := (true, "85bda12fb114d93d39a13df2dbfd59ce84337b56bfa338df057304b2de3f3825"), looks := true }, kinds := [], alts := [], laidByText := true, laidKinds := [.data, .data, .data, .sentinel, .sentinel], laidTests := true, laidLooks := .later }
def ValsetMeetsUptoCardSaid : Prop := Claim7.holds Tryd.pinned (.plain (OpenSpec.upto valsetMeetsSpec)) valsetMeetsUptoCard

/-- THE SECOND FORM's CARD OF 'sutlerlaw03.ValsetAdmits'. -/
def valsetAdmitsUptoCard : Claim7 := { stood := { row := valsetAdmitsUptoRow, standIns := [], harness := (true, "85bda12fb114d93d39a13df2dbfd59ce84337b56bfa338df057304b2de3f3825"), looks := true }, kinds := [], alts := [], laidByText := true, laidKinds := [.data, .data, .data, .sentinel, .sentinel], laidTests := true, laidLooks := .later }
def ValsetAdmitsUptoCardSaid : Prop := Claim7.holds Tryd.pinned (.plain (OpenSpec.upto valsetAdmitsSpec)) valsetAdmitsUptoCard

/-- THE SECOND FORM's CARD OF 'sutlerlaw03.ValsetTurns'. -/
def valsetTurnsUptoCard : Claim7 := { stood := { row := valsetTurnsUptoRow, standIns := [], harness := (true, "85bda12fb114d93d39a13df2dbfd59ce84337b56bfa338df057304b2de3f3825"), looks := true }, kinds := [], alts := [], laidByText := true, laidKinds := [.data, .data, .data, .sentinel, .sentinel], laidTests := true, laidLooks := .later }
def ValsetTurnsUptoCardSaid : Prop := Claim7.holds Tryd.pinned (.plain (OpenSpec.upto valsetTurnsSpec)) valsetTurnsUptoCard

/-- THE SECOND FORM's CARD OF 'sutlerlaw03.ValsetBoth'. -/
def valsetBothUptoCard : Claim7 := { stood := { row := valsetBothUptoRow, standIns := [], harness := (true, "85bda12fb114d93d39a13df2dbfd59ce84337b56bfa338df057304b2de3f3825"), looks := true }, kinds := [], alts := [], laidByText := true, laidKinds := [.data, .data, .data, .sentinel, .sentinel], laidTests := true, laidLooks := .later }
def ValsetBothUptoCardSaid : Prop := Claim7.holds Tryd.pinned (.plain (OpenSpec.upto valsetBothSpec)) valsetBothUptoCard

/-- THE SECOND FORM's CARD OF 'sutlerlaw03.ValsetAsks'. -/
def valsetAsksUptoCard : Claim7 := { stood := { row := valsetAsksUptoRow, standIns := [], harness := (true, "85bda12fb114d93d39a13df2dbfd59ce84337b56bfa338df057304b2de3f3825"), looks := true }, kinds := [], alts := [], laidByText := true, laidKinds := [.data, .data, .data, .sentinel, .sentinel], laidTests := true, laidLooks := .later }
def ValsetAsksUptoCardSaid : Prop := Claim7.holds Tryd.pinned (.plain (OpenSpec.upto valsetAsksSpec)) valsetAsksUptoCard
end Rows
end Go.Proofs.YteaklhcejjiinaaDoor
