/-
  DERIVED. GIVEN WITH THE SEED: THE CARDS: each row of YtococcgeoknmjaaGreatDoorRows.lean that lists a variable, with what it lists TIED to the program's text (the seventh form; the later family's looks); each row that meets fmt, with fmt's text TOLD by the authors' own Lean function (tested against real Go, not proved from fmt's source: count such statements apart). THE CARD IS WHAT COUNTS. Prove the row's statement (the work); the ties are given (YtococcgeoknmjaaGreatDoorTie.lean); close each card by the builder's one call (the guide's Derived/Test/ToyasCard.lean, 'card_holds'). Laid BY PROGRAM, IN A SANDBOX (cutbox-door.mjs). By AI agents, Wed Nov 11 2026. No macro, syntax, notation, axiom, sorry.
-/
import Derived.Test.YtococcgeoknmjaaGreatDoorRows
import GoSem.ClaimSeven
namespace Go.Proofs.YtococcgeoknmjaaGreatDoor
namespace Rows

/-- THE TIED CARD OF 'sutlerlaw08.ObjectChecks'. -/
def objectChecksCard : Claim7 := { stood := { row := objectChecksRow, standIns := [], harness := (true, "dcfc04c605f64eed57c85bef62aa2d78270be6caa863562f953d313a4a280b39"), looks := true }, kinds := [], alts := [], laidByText := true, laidKinds := [.data, .data, .data, .sentinel, .sentinel], laidTests := true, laidLooks := .later }
def ObjectChecksCardSaid : Prop := Claim7.holds Tryz.pinned (.plain (OpenSpec.ofChange objectChecksSpec)) objectChecksCard

/-- THE TIED CARD OF 'sutlerlaw08.ObjectLess'. -/
def objectLessCard : Claim7 := { stood := { row := objectLessRow, standIns := [], harness := (true, "dcfc04c605f64eed57c85bef62aa2d78270be6caa863562f953d313a4a280b39"), looks := true }, kinds := [], alts := [], laidByText := true, laidKinds := [.data, .data, .data, .sentinel, .sentinel], laidTests := true, laidLooks := .later }
def ObjectLessCardSaid : Prop := Claim7.holds Tryz.pinned (.plain (OpenSpec.ofChange objectLessSpec)) objectLessCard

/-- THE TIED CARD OF 'sutlerlaw08.ObjectNodes'. -/
def objectNodesCard : Claim7 := { stood := { row := objectNodesRow, standIns := [], harness := (true, "dcfc04c605f64eed57c85bef62aa2d78270be6caa863562f953d313a4a280b39"), looks := true }, kinds := [], alts := [], laidByText := true, laidKinds := [.data, .data, .data, .sentinel, .sentinel], laidTests := true, laidLooks := .later }
def ObjectNodesCardSaid : Prop := Claim7.holds Tryz.pinned (.plain (OpenSpec.ofChange objectNodesSpec)) objectNodesCard

/-- THE TIED CARD OF 'sutlerlaw09.CodecWrites'. -/
def codecWritesCard : Claim7 := { stood := { row := codecWritesRow, standIns := [], harness := (true, "dcfc04c605f64eed57c85bef62aa2d78270be6caa863562f953d313a4a280b39"), looks := true }, kinds := [], alts := [], laidByText := true, laidKinds := [.data, .data, .data, .sentinel, .sentinel], laidTests := true, laidLooks := .later }
def CodecWritesCardSaid : Prop := Claim7.holds Tryz.pinned (.plain (OpenSpec.ofChange codecWritesSpec)) codecWritesCard

/-- THE TIED CARD OF 'sutlerlaw09.CodecReads'. -/
def codecReadsCard : Claim7 := { stood := { row := codecReadsRow, standIns := [], harness := (true, "dcfc04c605f64eed57c85bef62aa2d78270be6caa863562f953d313a4a280b39"), looks := true }, kinds := [], alts := [], laidByText := true, laidKinds := [.data, .data, .data, .sentinel, .sentinel], laidTests := true, laidLooks := .later }
def CodecReadsCardSaid : Prop := Claim7.holds Tryz.pinned (.plain (OpenSpec.ofChange codecReadsSpec)) codecReadsCard

/-- THE TIED CARD OF 'sutlerlaw09.CodecBack'. -/
def codecBackCard : Claim7 := { stood := { row := codecBackRow, standIns := [], harness := (true, "dcfc04c605f64eed57c85bef62aa2d78270be6caa863562f953d313a4a280b39"), looks := true }, kinds := [], alts := [], laidByText := true, laidKinds := [.data, .data, .data, .sentinel, .sentinel], laidTests := true, laidLooks := .later }
def CodecBackCardSaid : Prop := Claim7.holds Tryz.pinned (.plain (OpenSpec.ofChange codecBackSpec)) codecBackCard

/-- THE TIED CARD OF 'sutlerlaw09.CodecUnlike'. -/
def codecUnlikeCard : Claim7 := { stood := { row := codecUnlikeRow, standIns := [], harness := (true, "dcfc04c605f64eed57c85bef62aa2d78270be6caa863562f953d313a4a280b39"), looks := true }, kinds := [], alts := [], laidByText := true, laidKinds := [.data, .data, .data, .sentinel, .sentinel], laidTests := true, laidLooks := .later }
def CodecUnlikeCardSaid : Prop := Claim7.holds Tryz.pinned (.plain (OpenSpec.ofChange codecUnlikeSpec)) codecUnlikeCard

/-- THE TIED CARD OF 'sutlerlaw04.ReqsNumbers'. -/
def reqsNumbersCard : Claim7 := { stood := { row := reqsNumbersRow, standIns := [], harness := (true, "dcfc04c605f64eed57c85bef62aa2d78270be6caa863562f953d313a4a280b39"), looks := true }, kinds := [], alts := [], laidByText := true, laidKinds := [.data, .data, .data, .sentinel, .sentinel], laidTests := true, laidLooks := .later }
def ReqsNumbersCardSaid : Prop := Claim7.holds Tryz.pinned (.plain (OpenSpec.ofChange reqsNumbersSpec)) reqsNumbersCard

/-- THE TIED CARD OF 'sutlerlaw04.ReqsSets'. -/
def reqsSetsCard : Claim7 := { stood := { row := reqsSetsRow, standIns := [], harness := (true, "dcfc04c605f64eed57c85bef62aa2d78270be6caa863562f953d313a4a280b39"), looks := true }, kinds := [], alts := [], laidByText := true, laidKinds := [.data, .data, .data, .sentinel, .sentinel], laidTests := true, laidLooks := .later }
def ReqsSetsCardSaid : Prop := Claim7.holds Tryz.pinned (.plain (OpenSpec.ofChange reqsSetsSpec)) reqsSetsCard

/-- THE TIED CARD OF 'sutlerlaw04.ReqsAdmits'. -/
def reqsAdmitsCard : Claim7 := { stood := { row := reqsAdmitsRow, standIns := [], harness := (true, "dcfc04c605f64eed57c85bef62aa2d78270be6caa863562f953d313a4a280b39"), looks := true }, kinds := [], alts := [], laidByText := true, laidKinds := [.data, .data, .data, .sentinel, .sentinel], laidTests := true, laidLooks := .later }
def ReqsAdmitsCardSaid : Prop := Claim7.holds Tryz.pinned (.plain (OpenSpec.ofChange reqsAdmitsSpec)) reqsAdmitsCard

/-- THE TIED CARD OF 'sutlerlaw04.ReqsCan'. -/
def reqsCanCard : Claim7 := { stood := { row := reqsCanRow, standIns := [], harness := (true, "dcfc04c605f64eed57c85bef62aa2d78270be6caa863562f953d313a4a280b39"), looks := true }, kinds := [], alts := [], laidByText := true, laidKinds := [.data, .data, .data, .sentinel, .sentinel], laidTests := true, laidLooks := .later }
def ReqsCanCardSaid : Prop := Claim7.holds Tryz.pinned (.plain (OpenSpec.ofChange reqsCanSpec)) reqsCanCard

/-- THE TIED CARD OF 'sutlerlaw04.ReqsMet'. -/
def reqsMetCard : Claim7 := { stood := { row := reqsMetRow, standIns := [], harness := (true, "dcfc04c605f64eed57c85bef62aa2d78270be6caa863562f953d313a4a280b39"), looks := true }, kinds := [], alts := [], laidByText := true, laidKinds := [.data, .data, .data, .sentinel, .sentinel], laidTests := true, laidLooks := .later }
def ReqsMetCardSaid : Prop := Claim7.holds Tryz.pinned (.plain (OpenSpec.ofChange reqsMetSpec)) reqsMetCard

/-- THE SECOND FORM's CARD OF 'sutlerlaw08.ObjectChecks'. -/
def objectChecksUptoCard : Claim7 := { stood := { row := objectChecksUptoRow, standIns := [], harness := (true, "dcfc04c605f64eed57c85bef62aa2d78270be6caa863562f953d313a4a280b39"), looks := true }, kinds := [], alts := [], laidByText := true, laidKinds := [.data, .data, .data, .sentinel, .sentinel], laidTests := true, laidLooks := .later }
def ObjectChecksUptoCardSaid : Prop := Claim7.holds Tryz.pinned (.plain (OpenSpec.upto objectChecksSpec)) objectChecksUptoCard

/-- THE SECOND FORM's CARD OF 'sutlerlaw08.ObjectLess'. -/
def objectLessUptoCard : Claim7 := { stood := { row := objectLessUptoRow, standIns := [], harness := (true, "dcfc04c605f64eed57c85bef62aa2d78270be6caa863562f953d313a4a280b39"), looks := true }, kinds := [], alts := [], laidByText := true, laidKinds := [.data, .data, .data, .sentinel, .sentinel], laidTests := true, laidLooks := .later }
def ObjectLessUptoCardSaid : Prop := Claim7.holds Tryz.pinned (.plain (OpenSpec.upto objectLessSpec)) objectLessUptoCard

/-- THE SECOND FORM's CARD OF 'sutlerlaw08.ObjectNodes'. -/
def objectNodesUptoCard : Claim7 := { stood := { row := objectNodesUptoRow, standIns := [], harness := (true, "dcfc04c605f64eed57c85bef62aa2d78270be6caa863562f953d313a4a280b39"), looks := true }, kinds := [], alts := [], laidByText := true, laidKinds := [.data, .data, .data, .sentinel, .sentinel], laidTests := true, laidLooks := .later }
def ObjectNodesUptoCardSaid : Prop := Claim7.holds Tryz.pinned (.plain (OpenSpec.upto objectNodesSpec)) objectNodesUptoCard

/-- THE SECOND FORM's CARD OF 'sutlerlaw09.CodecWrites'. -/
def codecWritesUptoCard : Claim7 := { stood := { row := codecWritesUptoRow, standIns := [], harness := (true, "dcfc04c605f64eed57c85bef62aa2d78270be6caa863562f953d313a4a280b39"), looks := true }, kinds := [], alts := [], laidByText := true, laidKinds := [.data, .data, .data, .sentinel, .sentinel], laidTests := true, laidLooks := .later }
def CodecWritesUptoCardSaid : Prop := Claim7.holds Tryz.pinned (.plain (OpenSpec.upto codecWritesSpec)) codecWritesUptoCard

/-- THE SECOND FORM's CARD OF 'sutlerlaw09.CodecReads'. -/
def codecReadsUptoCard : Claim7 := { stood := { row := codecReadsUptoRow, standIns := [], harness := (true, "dcfc04c605f64eed57c85bef62aa2d78270be6caa863562f953d313a4a280b39"), looks := true }, kinds := [], alts := [], laidByText := true, laidKinds := [.data, .data, .data, .sentinel, .sentinel], laidTests := true, laidLooks := .later }
def CodecReadsUptoCardSaid : Prop := Claim7.holds Tryz.pinned (.plain (OpenSpec.upto codecReadsSpec)) codecReadsUptoCard

/-- THE SECOND FORM's CARD OF 'sutlerlaw09.CodecBack'. -/
def codecBackUptoCard : Claim7 := { stood := { row := codecBackUptoRow, standIns := [], harness := (true, "dcfc04c605f64eed57c85bef62aa2d78270be6caa863562f953d313a4a280b39"), looks := true }, kinds := [], alts := [], laidByText := true, laidKinds := [.data, .data, .data, .sentinel, .sentinel], laidTests := true, laidLooks := .later }
def CodecBackUptoCardSaid : Prop := Claim7.holds Tryz.pinned (.plain (OpenSpec.upto codecBackSpec)) codecBackUptoCard

/-- THE SECOND FORM's CARD OF 'sutlerlaw09.CodecUnlike'. -/
def codecUnlikeUptoCard : Claim7 := { stood := { row := codecUnlikeUptoRow, standIns := [], harness := (true, "dcfc04c605f64eed57c85bef62aa2d78270be6caa863562f953d313a4a280b39"), looks := true }, kinds := [], alts := [], laidByText := true, laidKinds := [.data, .data, .data, .sentinel, .sentinel], laidTests := true, laidLooks := .later }
def CodecUnlikeUptoCardSaid : Prop := Claim7.holds Tryz.pinned (.plain (OpenSpec.upto codecUnlikeSpec)) codecUnlikeUptoCard

/-- THE SECOND FORM's CARD OF 'sutlerlaw04.ReqsNumbers'. -/
def reqsNumbersUptoCard : Claim7 := { stood := { row := reqsNumbersUptoRow, standIns := [], harness := (true, "dcfc04c605f64eed57c85bef62aa2d78270be6caa863562f953d313a4a280b39"), looks := true }, kinds := [], alts := [], laidByText := true, laidKinds := [.data, .data, .data, .sentinel, .sentinel], laidTests := true, laidLooks := .later }
def ReqsNumbersUptoCardSaid : Prop := Claim7.holds Tryz.pinned (.plain (OpenSpec.upto reqsNumbersSpec)) reqsNumbersUptoCard

/-- THE SECOND FORM's CARD OF 'sutlerlaw04.ReqsSets'. -/
def reqsSetsUptoCard : Claim7 := { stood := { row := reqsSetsUptoRow, standIns := [], harness := (true, "dcfc04c605f64eed57c85bef62aa2d78270be6caa863562f953d313a4a280b39"), looks := true }, kinds := [], alts := [], laidByText := true, laidKinds := [.data, .data, .data, .sentinel, .sentinel], laidTests := true, laidLooks := .later }
def ReqsSetsUptoCardSaid : Prop := Claim7.holds Tryz.pinned (.plain (OpenSpec.upto reqsSetsSpec)) reqsSetsUptoCard

/-- THE SECOND FORM's CARD OF 'sutlerlaw04.ReqsAdmits'. -/
def reqsAdmitsUptoCard : Claim7 := { stood := { row := reqsAdmitsUptoRow, standIns := [], harness := (true, "dcfc04c605f64eed57c85bef62aa2d78270be6caa863562f953d313a4a280b39"), looks := true }, kinds := [], alts := [], laidByText := true, laidKinds := [.data, .data, .data, .sentinel, .sentinel], laidTests := true, laidLooks := .later }
def ReqsAdmitsUptoCardSaid : Prop := Claim7.holds Tryz.pinned (.plain (OpenSpec.upto reqsAdmitsSpec)) reqsAdmitsUptoCard

/-- THE SECOND FORM's CARD OF 'sutlerlaw04.ReqsCan'. -/
def reqsCanUptoCard : Claim7 := { stood := { row := reqsCanUptoRow, standIns := [], harness := (true, "dcfc04c605f64eed57c85bef62aa2d78270be6caa863562f953d313a4a280b39"), looks := true }, kinds := [], alts := [], laidByText := true, laidKinds := [.data, .data, .data, .sentinel, .sentinel], laidTests := true, laidLooks := .later }
def ReqsCanUptoCardSaid : Prop := Claim7.holds Tryz.pinned (.plain (OpenSpec.upto reqsCanSpec)) reqsCanUptoCard

/-- THE SECOND FORM's CARD OF 'sutlerlaw04.ReqsMet'. -/
def reqsMetUptoCard : Claim7 := { stood := { row := reqsMetUptoRow, standIns := [], harness := (true, "dcfc04c605f64eed57c85bef62aa2d78270be6caa863562f953d313a4a280b39"), looks := true }, kinds := [], alts := [], laidByText := true, laidKinds := [.data, .data, .data, .sentinel, .sentinel], laidTests := true, laidLooks := .later }
def ReqsMetUptoCardSaid : Prop := Claim7.holds Tryz.pinned (.plain (OpenSpec.upto reqsMetSpec)) reqsMetUptoCard
end Rows
end Go.Proofs.YtococcgeoknmjaaGreatDoor
