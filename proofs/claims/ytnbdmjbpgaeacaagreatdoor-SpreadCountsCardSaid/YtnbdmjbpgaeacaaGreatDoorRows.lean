/-
  NARROWER THAN 'FOR EVERY INPUT', by the rows' own cells (each row's printed sentence says how): BudgetTells: laid · BudgetLess: laid · BudgetMarks: laid · BudgetCounts: laid · NearNear: laid · NearApart: laid · NearBoth: laid · NearAlone: laid · NearLess: laid · SpreadDomains: laid · SpreadFits: laid · SpreadMore: laid · SpreadLeast: laid · SpreadCounts: laid · FitWhy: laid · FitLayers: laid · FitLess: laid · FitAgain: laid.
  DERIVED. THE GIVEN ROWS OF THIS SEAT. 18 by the template 'for every input the law returns true; each argument reads behind the call as it read before'; 0 by the template 'total and deterministic' (their statements: YtnbdmjbpgaeacaaGreatDoorTotals.lean).
  GIVEN WITH THE SEED: the statements are not yours to turn. If you find one false, say at which input.
  Laid BY PROGRAM, IN A SANDBOX (cutbox-rows.mjs): the forced cells as the released guide's own fill.sh prints them over the translation 2fff89e6056a6089… (all of the seat's roots in one cut). By AI agents, Wed Nov 11 2026. No macro, syntax, notation, axiom, sorry.
-/
import Derived.Test.YtnbdmjbpgaeacaaGreatDoorChecked
import GoSem.Claim
import GoSem.ClaimJoined
import GoSem.ClaimMapViews
import Derived.JoinedTies
import Derived.KernelRfl
namespace Go.Proofs.YtnbdmjbpgaeacaaGreatDoor
/- THE CELL 'sum', in the pinned program and in every row, IS THE sha256 OF THE DUMP (.gsa) THAT YtnbdmjbpgaeacaaGreatDoorProg.lean LOADS. Nothing in Lean hashes anything: it is a label: what it is worth is what the hold of that sum in a sandbox is worth. -/
noncomputable def Tryz.pinned : Pinned := { name := "ytnbdmjbpgaeacaagreatdoor", sum := "2fff89e6056a60899c4392c3958c2c2fcd704f3e2da9aca442a07ead7cca4381", checked := Tryz.checked }
namespace Rows
def none {H : Type} : Left H := { results := [], args := [] }

/- WHAT THE LISTED PACKAGE-LEVEL VARIABLES READ AS WHEN THE CALL BEGINS. Each datum BY PROGRAM (the guide's laid-datum.mjs) off the statement by which the dump's own 'gosem.cut.vars' lays the variable. In a bare row this is a premise. The card (YtnbdmjbpgaeacaaGreatDoorCards.lean) ties it to the program's text. -/
def laid_math_bits_deBruijn32tab {H : Type} : DataW H := .agg [.lit (.int .u8 0), .lit (.int .u8 1), .lit (.int .u8 28), .lit (.int .u8 2), .lit (.int .u8 29), .lit (.int .u8 14), .lit (.int .u8 24), .lit (.int .u8 3), .lit (.int .u8 30), .lit (.int .u8 22), .lit (.int .u8 20), .lit (.int .u8 15), .lit (.int .u8 25), .lit (.int .u8 17), .lit (.int .u8 4), .lit (.int .u8 8), .lit (.int .u8 31), .lit (.int .u8 27), .lit (.int .u8 13), .lit (.int .u8 23), .lit (.int .u8 21), .lit (.int .u8 19), .lit (.int .u8 16), .lit (.int .u8 7), .lit (.int .u8 26), .lit (.int .u8 12), .lit (.int .u8 18), .lit (.int .u8 6), .lit (.int .u8 11), .lit (.int .u8 5), .lit (.int .u8 10), .lit (.int .u8 9)]
def laid_math_bits_deBruijn64tab {H : Type} : DataW H := .agg [.lit (.int .u8 0), .lit (.int .u8 1), .lit (.int .u8 56), .lit (.int .u8 2), .lit (.int .u8 57), .lit (.int .u8 49), .lit (.int .u8 28), .lit (.int .u8 3), .lit (.int .u8 61), .lit (.int .u8 58), .lit (.int .u8 42), .lit (.int .u8 50), .lit (.int .u8 38), .lit (.int .u8 29), .lit (.int .u8 17), .lit (.int .u8 4), .lit (.int .u8 62), .lit (.int .u8 47), .lit (.int .u8 59), .lit (.int .u8 36), .lit (.int .u8 45), .lit (.int .u8 43), .lit (.int .u8 51), .lit (.int .u8 22), .lit (.int .u8 53), .lit (.int .u8 39), .lit (.int .u8 33), .lit (.int .u8 30), .lit (.int .u8 24), .lit (.int .u8 18), .lit (.int .u8 12), .lit (.int .u8 5), .lit (.int .u8 63), .lit (.int .u8 55), .lit (.int .u8 48), .lit (.int .u8 27), .lit (.int .u8 60), .lit (.int .u8 41), .lit (.int .u8 37), .lit (.int .u8 16), .lit (.int .u8 46), .lit (.int .u8 35), .lit (.int .u8 44), .lit (.int .u8 21), .lit (.int .u8 52), .lit (.int .u8 32), .lit (.int .u8 23), .lit (.int .u8 11), .lit (.int .u8 54), .lit (.int .u8 26), .lit (.int .u8 40), .lit (.int .u8 15), .lit (.int .u8 34), .lit (.int .u8 20), .lit (.int .u8 31), .lit (.int .u8 10), .lit (.int .u8 25), .lit (.int .u8 14), .lit (.int .u8 19), .lit (.int .u8 9), .lit (.int .u8 13), .lit (.int .u8 8), .lit (.int .u8 7), .lit (.int .u8 6)]
def laid_internal_strconv_uint64pow10 {H : Type} : DataW H := .agg [.lit (.int .u64 1), .lit (.int .u64 10), .lit (.int .u64 100), .lit (.int .u64 1000), .lit (.int .u64 10000), .lit (.int .u64 100000), .lit (.int .u64 1000000), .lit (.int .u64 10000000), .lit (.int .u64 100000000), .lit (.int .u64 1000000000), .lit (.int .u64 10000000000), .lit (.int .u64 100000000000), .lit (.int .u64 1000000000000), .lit (.int .u64 10000000000000), .lit (.int .u64 100000000000000), .lit (.int .u64 1000000000000000), .lit (.int .u64 10000000000000000), .lit (.int .u64 100000000000000000), .lit (.int .u64 1000000000000000000), .lit (.int .u64 10000000000000000000)]
def laid_strconv_ErrRange {H : Type} : DataW H := .iface "*errors.errorString" (.ptr (.agg [.lit (.string [118, 97, 108, 117, 101, 32, 111, 117, 116, 32, 111, 102, 32, 114, 97, 110, 103, 101])]))
def laid_strconv_ErrSyntax {H : Type} : DataW H := .iface "*errors.errorString" (.ptr (.agg [.lit (.string [105, 110, 118, 97, 108, 105, 100, 32, 115, 121, 110, 116, 97, 120])]))

/-- 'sutlerlaw21.BudgetTells': WHATEVER THE INPUT: true; the input reads as it did. -/
def budgetTellsSpec : ChangeSpec := { name := "budgetTells", fn := fun _ => fun
  | [d1, d2, d3] => { results := [.lit (.bool true)], args := [d1, d2, d3] }
  | _ => none }
def budgetTellsRow : OpenClaim := { program := "ytnbdmjbpgaeacaagreatdoor", sum := "2fff89e6056a60899c4392c3958c2c2fcd704f3e2da9aca442a07ead7cca4381", func := "sutler/sutlerlaw21.BudgetTells", spec := "budgetTells", inPlace := ["internal/bytealg.abigen_runtime_cmpstring"], unfollowed := true, recurses := true, named := ["strconv.ErrSyntax", "strconv.ErrRange", "internal/strconv.uint64pow10", "math/bits.deBruijn32tab", "math/bits.deBruijn64tab"], plainKeys := false, apart := false, laid := [("math/bits.deBruijn32tab", laid_math_bits_deBruijn32tab), ("math/bits.deBruijn64tab", laid_math_bits_deBruijn64tab), ("internal/strconv.uint64pow10", laid_internal_strconv_uint64pow10), ("strconv.ErrRange", laid_strconv_ErrRange), ("strconv.ErrSyntax", laid_strconv_ErrSyntax)] }
def BudgetTellsSaid : Prop := budgetTellsRow.holds Tryz.pinned (OpenSpec.ofChange budgetTellsSpec)

/-- ITS FALSE NEIGHBOUR: 'it returns false'. Refute it at one input. -/
def budgetTellsWrong : ChangeSpec := { name := "budgetTells", fn := fun _ => fun
  | [d1, d2, d3] => { results := [.lit (.bool false)], args := [d1, d2, d3] }
  | _ => none }
def BudgetTellsWrongFalsely : Prop := budgetTellsRow.holds Tryz.pinned (OpenSpec.ofChange budgetTellsWrong)

/-- 'sutlerlaw21.BudgetLess': WHATEVER THE INPUT: true; the input reads as it did. -/
def budgetLessSpec : ChangeSpec := { name := "budgetLess", fn := fun _ => fun
  | [d1, d2] => { results := [.lit (.bool true)], args := [d1, d2] }
  | _ => none }
def budgetLessRow : OpenClaim := { program := "ytnbdmjbpgaeacaagreatdoor", sum := "2fff89e6056a60899c4392c3958c2c2fcd704f3e2da9aca442a07ead7cca4381", func := "sutler/sutlerlaw21.BudgetLess", spec := "budgetLess", inPlace := ["internal/bytealg.abigen_runtime_cmpstring"], unfollowed := true, recurses := true, named := ["strconv.ErrSyntax", "strconv.ErrRange", "internal/strconv.uint64pow10", "math/bits.deBruijn32tab", "math/bits.deBruijn64tab"], plainKeys := false, apart := false, laid := [("math/bits.deBruijn32tab", laid_math_bits_deBruijn32tab), ("math/bits.deBruijn64tab", laid_math_bits_deBruijn64tab), ("internal/strconv.uint64pow10", laid_internal_strconv_uint64pow10), ("strconv.ErrRange", laid_strconv_ErrRange), ("strconv.ErrSyntax", laid_strconv_ErrSyntax)] }
def BudgetLessSaid : Prop := budgetLessRow.holds Tryz.pinned (OpenSpec.ofChange budgetLessSpec)

/-- ITS FALSE NEIGHBOUR: 'it returns false'. Refute it at one input. -/
def budgetLessWrong : ChangeSpec := { name := "budgetLess", fn := fun _ => fun
  | [d1, d2] => { results := [.lit (.bool false)], args := [d1, d2] }
  | _ => none }
def BudgetLessWrongFalsely : Prop := budgetLessRow.holds Tryz.pinned (OpenSpec.ofChange budgetLessWrong)

/-- 'sutlerlaw21.BudgetMarks': WHATEVER THE INPUT: true; the input reads as it did. -/
def budgetMarksSpec : ChangeSpec := { name := "budgetMarks", fn := fun _ => fun
  | [d1, d2] => { results := [.lit (.bool true)], args := [d1, d2] }
  | _ => none }
def budgetMarksRow : OpenClaim := { program := "ytnbdmjbpgaeacaagreatdoor", sum := "2fff89e6056a60899c4392c3958c2c2fcd704f3e2da9aca442a07ead7cca4381", func := "sutler/sutlerlaw21.BudgetMarks", spec := "budgetMarks", inPlace := ["internal/bytealg.abigen_runtime_cmpstring"], unfollowed := true, recurses := true, named := ["strconv.ErrSyntax", "strconv.ErrRange", "internal/strconv.uint64pow10", "math/bits.deBruijn32tab", "math/bits.deBruijn64tab"], plainKeys := false, apart := false, laid := [("math/bits.deBruijn32tab", laid_math_bits_deBruijn32tab), ("math/bits.deBruijn64tab", laid_math_bits_deBruijn64tab), ("internal/strconv.uint64pow10", laid_internal_strconv_uint64pow10), ("strconv.ErrRange", laid_strconv_ErrRange), ("strconv.ErrSyntax", laid_strconv_ErrSyntax)] }
def BudgetMarksSaid : Prop := budgetMarksRow.holds Tryz.pinned (OpenSpec.ofChange budgetMarksSpec)

/-- ITS FALSE NEIGHBOUR: 'it returns false'. Refute it at one input. -/
def budgetMarksWrong : ChangeSpec := { name := "budgetMarks", fn := fun _ => fun
  | [d1, d2] => { results := [.lit (.bool false)], args := [d1, d2] }
  | _ => none }
def BudgetMarksWrongFalsely : Prop := budgetMarksRow.holds Tryz.pinned (OpenSpec.ofChange budgetMarksWrong)

/-- 'sutlerlaw21.BudgetCounts': WHATEVER THE INPUT: true; the input reads as it did. -/
def budgetCountsSpec : ChangeSpec := { name := "budgetCounts", fn := fun _ => fun
  | [d] => { results := [.lit (.bool true)], args := [d] }
  | _ => none }
def budgetCountsRow : OpenClaim := { program := "ytnbdmjbpgaeacaagreatdoor", sum := "2fff89e6056a60899c4392c3958c2c2fcd704f3e2da9aca442a07ead7cca4381", func := "sutler/sutlerlaw21.BudgetCounts", spec := "budgetCounts", inPlace := ["internal/bytealg.abigen_runtime_cmpstring"], unfollowed := true, recurses := true, named := ["strconv.ErrSyntax", "strconv.ErrRange", "internal/strconv.uint64pow10", "math/bits.deBruijn32tab", "math/bits.deBruijn64tab"], plainKeys := false, apart := false, laid := [("math/bits.deBruijn32tab", laid_math_bits_deBruijn32tab), ("math/bits.deBruijn64tab", laid_math_bits_deBruijn64tab), ("internal/strconv.uint64pow10", laid_internal_strconv_uint64pow10), ("strconv.ErrRange", laid_strconv_ErrRange), ("strconv.ErrSyntax", laid_strconv_ErrSyntax)] }
def BudgetCountsSaid : Prop := budgetCountsRow.holds Tryz.pinned (OpenSpec.ofChange budgetCountsSpec)

/-- ITS FALSE NEIGHBOUR: 'it returns false'. Refute it at one input. -/
def budgetCountsWrong : ChangeSpec := { name := "budgetCounts", fn := fun _ => fun
  | [d] => { results := [.lit (.bool false)], args := [d] }
  | _ => none }
def BudgetCountsWrongFalsely : Prop := budgetCountsRow.holds Tryz.pinned (OpenSpec.ofChange budgetCountsWrong)

/-- 'sutlerlaw16.NearNear': WHATEVER THE INPUT: true; the input reads as it did. -/
def nearNearSpec : ChangeSpec := { name := "nearNear", fn := fun _ => fun
  | [d1, d2, d3] => { results := [.lit (.bool true)], args := [d1, d2, d3] }
  | _ => none }
def nearNearRow : OpenClaim := { program := "ytnbdmjbpgaeacaagreatdoor", sum := "2fff89e6056a60899c4392c3958c2c2fcd704f3e2da9aca442a07ead7cca4381", func := "sutler/sutlerlaw16.NearNear", spec := "nearNear", inPlace := ["internal/bytealg.abigen_runtime_cmpstring"], unfollowed := true, recurses := true, named := ["strconv.ErrSyntax", "strconv.ErrRange", "internal/strconv.uint64pow10", "math/bits.deBruijn32tab", "math/bits.deBruijn64tab"], plainKeys := false, apart := false, laid := [("math/bits.deBruijn32tab", laid_math_bits_deBruijn32tab), ("math/bits.deBruijn64tab", laid_math_bits_deBruijn64tab), ("internal/strconv.uint64pow10", laid_internal_strconv_uint64pow10), ("strconv.ErrRange", laid_strconv_ErrRange), ("strconv.ErrSyntax", laid_strconv_ErrSyntax)] }
def NearNearSaid : Prop := nearNearRow.holds Tryz.pinned (OpenSpec.ofChange nearNearSpec)

/-- ITS FALSE NEIGHBOUR: 'it returns false'. Refute it at one input. -/
def nearNearWrong : ChangeSpec := { name := "nearNear", fn := fun _ => fun
  | [d1, d2, d3] => { results := [.lit (.bool false)], args := [d1, d2, d3] }
  | _ => none }
def NearNearWrongFalsely : Prop := nearNearRow.holds Tryz.pinned (OpenSpec.ofChange nearNearWrong)

/-- 'sutlerlaw16.NearApart': WHATEVER THE INPUT: true; the input reads as it did. -/
def nearApartSpec : ChangeSpec := { name := "nearApart", fn := fun _ => fun
  | [d1, d2, d3] => { results := [.lit (.bool true)], args := [d1, d2, d3] }
  | _ => none }
def nearApartRow : OpenClaim := { program := "ytnbdmjbpgaeacaagreatdoor", sum := "2fff89e6056a60899c4392c3958c2c2fcd704f3e2da9aca442a07ead7cca4381", func := "sutler/sutlerlaw16.NearApart", spec := "nearApart", inPlace := ["internal/bytealg.abigen_runtime_cmpstring"], unfollowed := true, recurses := true, named := ["strconv.ErrSyntax", "strconv.ErrRange", "internal/strconv.uint64pow10", "math/bits.deBruijn32tab", "math/bits.deBruijn64tab"], plainKeys := false, apart := false, laid := [("math/bits.deBruijn32tab", laid_math_bits_deBruijn32tab), ("math/bits.deBruijn64tab", laid_math_bits_deBruijn64tab), ("internal/strconv.uint64pow10", laid_internal_strconv_uint64pow10), ("strconv.ErrRange", laid_strconv_ErrRange), ("strconv.ErrSyntax", laid_strconv_ErrSyntax)] }
def NearApartSaid : Prop := nearApartRow.holds Tryz.pinned (OpenSpec.ofChange nearApartSpec)

/-- ITS FALSE NEIGHBOUR: 'it returns false'. Refute it at one input. -/
def nearApartWrong : ChangeSpec := { name := "nearApart", fn := fun _ => fun
  | [d1, d2, d3] => { results := [.lit (.bool false)], args := [d1, d2, d3] }
  | _ => none }
def NearApartWrongFalsely : Prop := nearApartRow.holds Tryz.pinned (OpenSpec.ofChange nearApartWrong)

/-- 'sutlerlaw16.NearBoth': WHATEVER THE INPUT: true; the input reads as it did. -/
def nearBothSpec : ChangeSpec := { name := "nearBoth", fn := fun _ => fun
  | [d1, d2, d3, d4, d5] => { results := [.lit (.bool true)], args := [d1, d2, d3, d4, d5] }
  | _ => none }
def nearBothRow : OpenClaim := { program := "ytnbdmjbpgaeacaagreatdoor", sum := "2fff89e6056a60899c4392c3958c2c2fcd704f3e2da9aca442a07ead7cca4381", func := "sutler/sutlerlaw16.NearBoth", spec := "nearBoth", inPlace := ["internal/bytealg.abigen_runtime_cmpstring"], unfollowed := true, recurses := true, named := ["strconv.ErrSyntax", "strconv.ErrRange", "internal/strconv.uint64pow10", "math/bits.deBruijn32tab", "math/bits.deBruijn64tab"], plainKeys := false, apart := false, laid := [("math/bits.deBruijn32tab", laid_math_bits_deBruijn32tab), ("math/bits.deBruijn64tab", laid_math_bits_deBruijn64tab), ("internal/strconv.uint64pow10", laid_internal_strconv_uint64pow10), ("strconv.ErrRange", laid_strconv_ErrRange), ("strconv.ErrSyntax", laid_strconv_ErrSyntax)] }
def NearBothSaid : Prop := nearBothRow.holds Tryz.pinned (OpenSpec.ofChange nearBothSpec)

/-- ITS FALSE NEIGHBOUR: 'it returns false'. Refute it at one input. -/
def nearBothWrong : ChangeSpec := { name := "nearBoth", fn := fun _ => fun
  | [d1, d2, d3, d4, d5] => { results := [.lit (.bool false)], args := [d1, d2, d3, d4, d5] }
  | _ => none }
def NearBothWrongFalsely : Prop := nearBothRow.holds Tryz.pinned (OpenSpec.ofChange nearBothWrong)

/-- 'sutlerlaw16.NearAlone': WHATEVER THE INPUT: true; the input reads as it did. -/
def nearAloneSpec : ChangeSpec := { name := "nearAlone", fn := fun _ => fun
  | [d1, d2, d3] => { results := [.lit (.bool true)], args := [d1, d2, d3] }
  | _ => none }
def nearAloneRow : OpenClaim := { program := "ytnbdmjbpgaeacaagreatdoor", sum := "2fff89e6056a60899c4392c3958c2c2fcd704f3e2da9aca442a07ead7cca4381", func := "sutler/sutlerlaw16.NearAlone", spec := "nearAlone", inPlace := ["internal/bytealg.abigen_runtime_cmpstring"], unfollowed := true, recurses := true, named := ["strconv.ErrSyntax", "strconv.ErrRange", "internal/strconv.uint64pow10", "math/bits.deBruijn32tab", "math/bits.deBruijn64tab"], plainKeys := false, apart := false, laid := [("math/bits.deBruijn32tab", laid_math_bits_deBruijn32tab), ("math/bits.deBruijn64tab", laid_math_bits_deBruijn64tab), ("internal/strconv.uint64pow10", laid_internal_strconv_uint64pow10), ("strconv.ErrRange", laid_strconv_ErrRange), ("strconv.ErrSyntax", laid_strconv_ErrSyntax)] }
def NearAloneSaid : Prop := nearAloneRow.holds Tryz.pinned (OpenSpec.ofChange nearAloneSpec)

/-- ITS FALSE NEIGHBOUR: 'it returns false'. Refute it at one input. -/
def nearAloneWrong : ChangeSpec := { name := "nearAlone", fn := fun _ => fun
  | [d1, d2, d3] => { results := [.lit (.bool false)], args := [d1, d2, d3] }
  | _ => none }
def NearAloneWrongFalsely : Prop := nearAloneRow.holds Tryz.pinned (OpenSpec.ofChange nearAloneWrong)

/-- 'sutlerlaw16.NearLess': WHATEVER THE INPUT: true; the input reads as it did. -/
def nearLessSpec : ChangeSpec := { name := "nearLess", fn := fun _ => fun
  | [d1, d2, d3, d4] => { results := [.lit (.bool true)], args := [d1, d2, d3, d4] }
  | _ => none }
def nearLessRow : OpenClaim := { program := "ytnbdmjbpgaeacaagreatdoor", sum := "2fff89e6056a60899c4392c3958c2c2fcd704f3e2da9aca442a07ead7cca4381", func := "sutler/sutlerlaw16.NearLess", spec := "nearLess", inPlace := ["internal/bytealg.abigen_runtime_cmpstring"], unfollowed := true, recurses := true, named := ["strconv.ErrSyntax", "strconv.ErrRange", "internal/strconv.uint64pow10", "math/bits.deBruijn32tab", "math/bits.deBruijn64tab"], plainKeys := false, apart := false, laid := [("math/bits.deBruijn32tab", laid_math_bits_deBruijn32tab), ("math/bits.deBruijn64tab", laid_math_bits_deBruijn64tab), ("internal/strconv.uint64pow10", laid_internal_strconv_uint64pow10), ("strconv.ErrRange", laid_strconv_ErrRange), ("strconv.ErrSyntax", laid_strconv_ErrSyntax)] }
def NearLessSaid : Prop := nearLessRow.holds Tryz.pinned (OpenSpec.ofChange nearLessSpec)

/-- ITS FALSE NEIGHBOUR: 'it returns false'. Refute it at one input. -/
def nearLessWrong : ChangeSpec := { name := "nearLess", fn := fun _ => fun
  | [d1, d2, d3, d4] => { results := [.lit (.bool false)], args := [d1, d2, d3, d4] }
  | _ => none }
def NearLessWrongFalsely : Prop := nearLessRow.holds Tryz.pinned (OpenSpec.ofChange nearLessWrong)

/-- 'sutlerlaw15.SpreadDomains': WHATEVER THE INPUT: true; the input reads as it did. -/
def spreadDomainsSpec : ChangeSpec := { name := "spreadDomains", fn := fun _ => fun
  | [d1, d2, d3, d4, d5] => { results := [.lit (.bool true)], args := [d1, d2, d3, d4, d5] }
  | _ => none }
def spreadDomainsRow : OpenClaim := { program := "ytnbdmjbpgaeacaagreatdoor", sum := "2fff89e6056a60899c4392c3958c2c2fcd704f3e2da9aca442a07ead7cca4381", func := "sutler/sutlerlaw15.SpreadDomains", spec := "spreadDomains", inPlace := ["internal/bytealg.abigen_runtime_cmpstring"], unfollowed := true, recurses := true, named := ["strconv.ErrSyntax", "strconv.ErrRange", "internal/strconv.uint64pow10", "math/bits.deBruijn32tab", "math/bits.deBruijn64tab"], plainKeys := false, apart := false, laid := [("math/bits.deBruijn32tab", laid_math_bits_deBruijn32tab), ("math/bits.deBruijn64tab", laid_math_bits_deBruijn64tab), ("internal/strconv.uint64pow10", laid_internal_strconv_uint64pow10), ("strconv.ErrRange", laid_strconv_ErrRange), ("strconv.ErrSyntax", laid_strconv_ErrSyntax)] }
def SpreadDomainsSaid : Prop := spreadDomainsRow.holds Tryz.pinned (OpenSpec.ofChange spreadDomainsSpec)

/-- ITS FALSE NEIGHBOUR: 'it returns false'. Refute it at one input. -/
def spreadDomainsWrong : ChangeSpec := { name := "spreadDomains", fn := fun _ => fun
  | [d1, d2, d3, d4, d5] => { results := [.lit (.bool false)], args := [d1, d2, d3, d4, d5] }
  | _ => none }
def SpreadDomainsWrongFalsely : Prop := spreadDomainsRow.holds Tryz.pinned (OpenSpec.ofChange spreadDomainsWrong)

/-- 'sutlerlaw15.SpreadFits': WHATEVER THE INPUT: true; the input reads as it did. -/
def spreadFitsSpec : ChangeSpec := { name := "spreadFits", fn := fun _ => fun
  | [d1, d2, d3] => { results := [.lit (.bool true)], args := [d1, d2, d3] }
  | _ => none }
def spreadFitsRow : OpenClaim := { program := "ytnbdmjbpgaeacaagreatdoor", sum := "2fff89e6056a60899c4392c3958c2c2fcd704f3e2da9aca442a07ead7cca4381", func := "sutler/sutlerlaw15.SpreadFits", spec := "spreadFits", inPlace := ["internal/bytealg.abigen_runtime_cmpstring"], unfollowed := true, recurses := true, named := ["strconv.ErrSyntax", "strconv.ErrRange", "internal/strconv.uint64pow10", "math/bits.deBruijn32tab", "math/bits.deBruijn64tab"], plainKeys := false, apart := false, laid := [("math/bits.deBruijn32tab", laid_math_bits_deBruijn32tab), ("math/bits.deBruijn64tab", laid_math_bits_deBruijn64tab), ("internal/strconv.uint64pow10", laid_internal_strconv_uint64pow10), ("strconv.ErrRange", laid_strconv_ErrRange), ("strconv.ErrSyntax", laid_strconv_ErrSyntax)] }
def SpreadFitsSaid : Prop := spreadFitsRow.holds Tryz.pinned (OpenSpec.ofChange spreadFitsSpec)

/-- ITS FALSE NEIGHBOUR: 'it returns false'. Refute it at one input. -/
def spreadFitsWrong : ChangeSpec := { name := "spreadFits", fn := fun _ => fun
  | [d1, d2, d3] => { results := [.lit (.bool false)], args := [d1, d2, d3] }
  | _ => none }
def SpreadFitsWrongFalsely : Prop := spreadFitsRow.holds Tryz.pinned (OpenSpec.ofChange spreadFitsWrong)

/-- 'sutlerlaw15.SpreadMore': WHATEVER THE INPUT: true; the input reads as it did. -/
def spreadMoreSpec : ChangeSpec := { name := "spreadMore", fn := fun _ => fun
  | [d1, d2, d3] => { results := [.lit (.bool true)], args := [d1, d2, d3] }
  | _ => none }
def spreadMoreRow : OpenClaim := { program := "ytnbdmjbpgaeacaagreatdoor", sum := "2fff89e6056a60899c4392c3958c2c2fcd704f3e2da9aca442a07ead7cca4381", func := "sutler/sutlerlaw15.SpreadMore", spec := "spreadMore", inPlace := ["internal/bytealg.abigen_runtime_cmpstring"], unfollowed := true, recurses := true, named := ["strconv.ErrSyntax", "strconv.ErrRange", "internal/strconv.uint64pow10", "math/bits.deBruijn32tab", "math/bits.deBruijn64tab"], plainKeys := false, apart := false, laid := [("math/bits.deBruijn32tab", laid_math_bits_deBruijn32tab), ("math/bits.deBruijn64tab", laid_math_bits_deBruijn64tab), ("internal/strconv.uint64pow10", laid_internal_strconv_uint64pow10), ("strconv.ErrRange", laid_strconv_ErrRange), ("strconv.ErrSyntax", laid_strconv_ErrSyntax)] }
def SpreadMoreSaid : Prop := spreadMoreRow.holds Tryz.pinned (OpenSpec.ofChange spreadMoreSpec)

/-- ITS FALSE NEIGHBOUR: 'it returns false'. Refute it at one input. -/
def spreadMoreWrong : ChangeSpec := { name := "spreadMore", fn := fun _ => fun
  | [d1, d2, d3] => { results := [.lit (.bool false)], args := [d1, d2, d3] }
  | _ => none }
def SpreadMoreWrongFalsely : Prop := spreadMoreRow.holds Tryz.pinned (OpenSpec.ofChange spreadMoreWrong)

/-- 'sutlerlaw15.SpreadLeast': WHATEVER THE INPUT: true; the input reads as it did. -/
def spreadLeastSpec : ChangeSpec := { name := "spreadLeast", fn := fun _ => fun
  | [d1, d2, d3] => { results := [.lit (.bool true)], args := [d1, d2, d3] }
  | _ => none }
def spreadLeastRow : OpenClaim := { program := "ytnbdmjbpgaeacaagreatdoor", sum := "2fff89e6056a60899c4392c3958c2c2fcd704f3e2da9aca442a07ead7cca4381", func := "sutler/sutlerlaw15.SpreadLeast", spec := "spreadLeast", inPlace := ["internal/bytealg.abigen_runtime_cmpstring"], unfollowed := true, recurses := true, named := ["strconv.ErrSyntax", "strconv.ErrRange", "internal/strconv.uint64pow10", "math/bits.deBruijn32tab", "math/bits.deBruijn64tab"], plainKeys := false, apart := false, laid := [("math/bits.deBruijn32tab", laid_math_bits_deBruijn32tab), ("math/bits.deBruijn64tab", laid_math_bits_deBruijn64tab), ("internal/strconv.uint64pow10", laid_internal_strconv_uint64pow10), ("strconv.ErrRange", laid_strconv_ErrRange), ("strconv.ErrSyntax", laid_strconv_ErrSyntax)] }
def SpreadLeastSaid : Prop := spreadLeastRow.holds Tryz.pinned (OpenSpec.ofChange spreadLeastSpec)

/-- ITS FALSE NEIGHBOUR: 'it returns false'. Refute it at one input. -/
def spreadLeastWrong : ChangeSpec := { name := "spreadLeast", fn := fun _ => fun
  | [d1, d2, d3] => { results := [.lit (.bool false)], args := [d1, d2, d3] }
  | _ => none }
def SpreadLeastWrongFalsely : Prop := spreadLeastRow.holds Tryz.pinned (OpenSpec.ofChange spreadLeastWrong)

/-- 'sutlerlaw15.SpreadCounts': WHATEVER THE INPUT: true; the input reads as it did. -/
def spreadCountsSpec : ChangeSpec := { name := "spreadCounts", fn := fun _ => fun
  | [d1, d2] => { results := [.lit (.bool true)], args := [d1, d2] }
  | _ => none }
def spreadCountsRow : OpenClaim := { program := "ytnbdmjbpgaeacaagreatdoor", sum := "2fff89e6056a60899c4392c3958c2c2fcd704f3e2da9aca442a07ead7cca4381", func := "sutler/sutlerlaw15.SpreadCounts", spec := "spreadCounts", inPlace := ["internal/bytealg.abigen_runtime_cmpstring"], unfollowed := true, recurses := true, named := ["strconv.ErrSyntax", "strconv.ErrRange", "internal/strconv.uint64pow10", "math/bits.deBruijn32tab", "math/bits.deBruijn64tab"], plainKeys := false, apart := false, laid := [("math/bits.deBruijn32tab", laid_math_bits_deBruijn32tab), ("math/bits.deBruijn64tab", laid_math_bits_deBruijn64tab), ("internal/strconv.uint64pow10", laid_internal_strconv_uint64pow10), ("strconv.ErrRange", laid_strconv_ErrRange), ("strconv.ErrSyntax", laid_strconv_ErrSyntax)] }
def SpreadCountsSaid : Prop := spreadCountsRow.holds Tryz.pinned (OpenSpec.ofChange spreadCountsSpec)

/-- ITS FALSE NEIGHBOUR: 'it returns false'. Refute it at one input. -/
def spreadCountsWrong : ChangeSpec := { name := "spreadCounts", fn := fun _ => fun
  | [d1, d2] => { results := [.lit (.bool false)], args := [d1, d2] }
  | _ => none }
def SpreadCountsWrongFalsely : Prop := spreadCountsRow.holds Tryz.pinned (OpenSpec.ofChange spreadCountsWrong)

/-- 'sutlerlaw17.FitWhy': WHATEVER THE INPUT: true; the input reads as it did. -/
def fitWhySpec : ChangeSpec := { name := "fitWhy", fn := fun _ => fun
  | [d1, d2, d3] => { results := [.lit (.bool true)], args := [d1, d2, d3] }
  | _ => none }
def fitWhyRow : OpenClaim := { program := "ytnbdmjbpgaeacaagreatdoor", sum := "2fff89e6056a60899c4392c3958c2c2fcd704f3e2da9aca442a07ead7cca4381", func := "sutler/sutlerlaw17.FitWhy", spec := "fitWhy", inPlace := ["internal/bytealg.abigen_runtime_cmpstring"], unfollowed := true, recurses := true, named := ["strconv.ErrSyntax", "strconv.ErrRange", "internal/strconv.uint64pow10", "math/bits.deBruijn32tab", "math/bits.deBruijn64tab"], plainKeys := false, apart := false, laid := [("math/bits.deBruijn32tab", laid_math_bits_deBruijn32tab), ("math/bits.deBruijn64tab", laid_math_bits_deBruijn64tab), ("internal/strconv.uint64pow10", laid_internal_strconv_uint64pow10), ("strconv.ErrRange", laid_strconv_ErrRange), ("strconv.ErrSyntax", laid_strconv_ErrSyntax)] }
def FitWhySaid : Prop := fitWhyRow.holds Tryz.pinned (OpenSpec.ofChange fitWhySpec)

/-- ITS FALSE NEIGHBOUR: 'it returns false'. Refute it at one input. -/
def fitWhyWrong : ChangeSpec := { name := "fitWhy", fn := fun _ => fun
  | [d1, d2, d3] => { results := [.lit (.bool false)], args := [d1, d2, d3] }
  | _ => none }
def FitWhyWrongFalsely : Prop := fitWhyRow.holds Tryz.pinned (OpenSpec.ofChange fitWhyWrong)

/-- 'sutlerlaw17.FitLayers': WHATEVER THE INPUT: true; the input reads as it did. -/
def fitLayersSpec : ChangeSpec := { name := "fitLayers", fn := fun _ => fun
  | [d1, d2, d3] => { results := [.lit (.bool true)], args := [d1, d2, d3] }
  | _ => none }
def fitLayersRow : OpenClaim := { program := "ytnbdmjbpgaeacaagreatdoor", sum := "2fff89e6056a60899c4392c3958c2c2fcd704f3e2da9aca442a07ead7cca4381", func := "sutler/sutlerlaw17.FitLayers", spec := "fitLayers", inPlace := ["internal/bytealg.abigen_runtime_cmpstring"], unfollowed := true, recurses := true, named := ["strconv.ErrSyntax", "strconv.ErrRange", "internal/strconv.uint64pow10", "math/bits.deBruijn32tab", "math/bits.deBruijn64tab"], plainKeys := false, apart := false, laid := [("math/bits.deBruijn32tab", laid_math_bits_deBruijn32tab), ("math/bits.deBruijn64tab", laid_math_bits_deBruijn64tab), ("internal/strconv.uint64pow10", laid_internal_strconv_uint64pow10), ("strconv.ErrRange", laid_strconv_ErrRange), ("strconv.ErrSyntax", laid_strconv_ErrSyntax)] }
def FitLayersSaid : Prop := fitLayersRow.holds Tryz.pinned (OpenSpec.ofChange fitLayersSpec)

/-- ITS FALSE NEIGHBOUR: 'it returns false'. Refute it at one input. -/
def fitLayersWrong : ChangeSpec := { name := "fitLayers", fn := fun _ => fun
  | [d1, d2, d3] => { results := [.lit (.bool false)], args := [d1, d2, d3] }
  | _ => none }
def FitLayersWrongFalsely : Prop := fitLayersRow.holds Tryz.pinned (OpenSpec.ofChange fitLayersWrong)

/-- 'sutlerlaw17.FitLess': WHATEVER THE INPUT: true; the input reads as it did. -/
def fitLessSpec : ChangeSpec := { name := "fitLess", fn := fun _ => fun
  | [d1, d2, d3, d4, d5] => { results := [.lit (.bool true)], args := [d1, d2, d3, d4, d5] }
  | _ => none }
def fitLessRow : OpenClaim := { program := "ytnbdmjbpgaeacaagreatdoor", sum := "2fff89e6056a60899c4392c3958c2c2fcd704f3e2da9aca442a07ead7cca4381", func := "sutler/sutlerlaw17.FitLess", spec := "fitLess", inPlace := ["internal/bytealg.abigen_runtime_cmpstring"], unfollowed := true, recurses := true, named := ["strconv.ErrSyntax", "strconv.ErrRange", "internal/strconv.uint64pow10", "math/bits.deBruijn32tab", "math/bits.deBruijn64tab"], plainKeys := false, apart := false, laid := [("math/bits.deBruijn32tab", laid_math_bits_deBruijn32tab), ("math/bits.deBruijn64tab", laid_math_bits_deBruijn64tab), ("internal/strconv.uint64pow10", laid_internal_strconv_uint64pow10), ("strconv.ErrRange", laid_strconv_ErrRange), ("strconv.ErrSyntax", laid_strconv_ErrSyntax)] }
def FitLessSaid : Prop := fitLessRow.holds Tryz.pinned (OpenSpec.ofChange fitLessSpec)

/-- ITS FALSE NEIGHBOUR: 'it returns false'. Refute it at one input. -/
def fitLessWrong : ChangeSpec := { name := "fitLess", fn := fun _ => fun
  | [d1, d2, d3, d4, d5] => { results := [.lit (.bool false)], args := [d1, d2, d3, d4, d5] }
  | _ => none }
def FitLessWrongFalsely : Prop := fitLessRow.holds Tryz.pinned (OpenSpec.ofChange fitLessWrong)

/-- 'sutlerlaw17.FitAgain': WHATEVER THE INPUT: true; the input reads as it did. -/
def fitAgainSpec : ChangeSpec := { name := "fitAgain", fn := fun _ => fun
  | [d1, d2] => { results := [.lit (.bool true)], args := [d1, d2] }
  | _ => none }
def fitAgainRow : OpenClaim := { program := "ytnbdmjbpgaeacaagreatdoor", sum := "2fff89e6056a60899c4392c3958c2c2fcd704f3e2da9aca442a07ead7cca4381", func := "sutler/sutlerlaw17.FitAgain", spec := "fitAgain", inPlace := ["internal/bytealg.abigen_runtime_cmpstring"], unfollowed := true, recurses := true, named := ["strconv.ErrSyntax", "strconv.ErrRange", "internal/strconv.uint64pow10", "math/bits.deBruijn32tab", "math/bits.deBruijn64tab"], plainKeys := false, apart := false, laid := [("math/bits.deBruijn32tab", laid_math_bits_deBruijn32tab), ("math/bits.deBruijn64tab", laid_math_bits_deBruijn64tab), ("internal/strconv.uint64pow10", laid_internal_strconv_uint64pow10), ("strconv.ErrRange", laid_strconv_ErrRange), ("strconv.ErrSyntax", laid_strconv_ErrSyntax)] }
def FitAgainSaid : Prop := fitAgainRow.holds Tryz.pinned (OpenSpec.ofChange fitAgainSpec)

/-- ITS FALSE NEIGHBOUR: 'it returns false'. Refute it at one input. -/
def fitAgainWrong : ChangeSpec := { name := "fitAgain", fn := fun _ => fun
  | [d1, d2] => { results := [.lit (.bool false)], args := [d1, d2] }
  | _ => none }
def FitAgainWrongFalsely : Prop := fitAgainRow.holds Tryz.pinned (OpenSpec.ofChange fitAgainWrong)

/- THE SECOND FORM. 'bulk': how many values and letters a reading holds, each counted each time it is reached (what is shared counts as often as it is met; a slice's spare places count too). A statement '..UptoSaid' is the law's where the arguments, and the package variables that the reading takes, are together of bulk at most 1048576: NARROWER than '..Said'. Prove '..Said' where nothing that the law and all that it calls make is longer than what came in: it says more and counts as full. Else prove '..UptoSaid'. A law counts once. -/
mutual
def uptoBulk {H : Type} : DataW H → Nat
  | .lit (.string bytes) => bytes.length + 1
  | .lit _ => 1
  | .nil => 1
  | .ptr d => uptoBulk d + 1
  | .slice elems spare => uptoBulkAll elems + uptoBulkAll spare + 1
  | .agg parts => uptoBulkAll parts + 1
  | .iface _ d => uptoBulk d + 1
  | .map entries => uptoBulkEntries entries + 1
  | .held _ => 1
def uptoBulkAll {H : Type} : List (DataW H) → Nat
  | [] => 0
  | d :: r => uptoBulk d + uptoBulkAll r
def uptoBulkEntries {H : Type} : List (Lit × DataW H) → Nat
  | [] => 0
  | x :: r => uptoBulkEntry x + uptoBulkEntries r
def uptoBulkEntry {H : Type} : Lit × DataW H → Nat
  | (.string bytes, d) => bytes.length + uptoBulk d + 1
  | (_, d) => uptoBulk d + 1
 end
def uptoSmall : (H : Type) → List (DataW H) → Bool := fun _ ds => decide (uptoBulkAll ds ≤ 1048576)
def OpenSpec.upto (s : _root_.Go.ChangeSpec) : _root_.Go.OpenSpec := { _root_.Go.OpenSpec.ofChange s with cond := some uptoSmall }

/-- 'sutlerlaw21.BudgetTells', WHERE WHAT IT READS IS OF BULK AT MOST 1048576: true; the input reads as it did. -/
def budgetTellsUptoRow : OpenClaim := { program := "ytnbdmjbpgaeacaagreatdoor", sum := "2fff89e6056a60899c4392c3958c2c2fcd704f3e2da9aca442a07ead7cca4381", func := "sutler/sutlerlaw21.BudgetTells", spec := "budgetTells", inPlace := ["internal/bytealg.abigen_runtime_cmpstring"], unfollowed := true, recurses := true, named := ["strconv.ErrSyntax", "strconv.ErrRange", "internal/strconv.uint64pow10", "math/bits.deBruijn32tab", "math/bits.deBruijn64tab"], plainKeys := false, apart := false, laid := [("math/bits.deBruijn32tab", laid_math_bits_deBruijn32tab), ("math/bits.deBruijn64tab", laid_math_bits_deBruijn64tab), ("internal/strconv.uint64pow10", laid_internal_strconv_uint64pow10), ("strconv.ErrRange", laid_strconv_ErrRange), ("strconv.ErrSyntax", laid_strconv_ErrSyntax)], narrowed := true }
def BudgetTellsUptoSaid : Prop := budgetTellsUptoRow.holds Tryz.pinned (OpenSpec.upto budgetTellsSpec)

/-- 'sutlerlaw21.BudgetLess', WHERE WHAT IT READS IS OF BULK AT MOST 1048576: true; the input reads as it did. -/
def budgetLessUptoRow : OpenClaim := { program := "ytnbdmjbpgaeacaagreatdoor", sum := "2fff89e6056a60899c4392c3958c2c2fcd704f3e2da9aca442a07ead7cca4381", func := "sutler/sutlerlaw21.BudgetLess", spec := "budgetLess", inPlace := ["internal/bytealg.abigen_runtime_cmpstring"], unfollowed := true, recurses := true, named := ["strconv.ErrSyntax", "strconv.ErrRange", "internal/strconv.uint64pow10", "math/bits.deBruijn32tab", "math/bits.deBruijn64tab"], plainKeys := false, apart := false, laid := [("math/bits.deBruijn32tab", laid_math_bits_deBruijn32tab), ("math/bits.deBruijn64tab", laid_math_bits_deBruijn64tab), ("internal/strconv.uint64pow10", laid_internal_strconv_uint64pow10), ("strconv.ErrRange", laid_strconv_ErrRange), ("strconv.ErrSyntax", laid_strconv_ErrSyntax)], narrowed := true }
def BudgetLessUptoSaid : Prop := budgetLessUptoRow.holds Tryz.pinned (OpenSpec.upto budgetLessSpec)

/-- 'sutlerlaw21.BudgetMarks', WHERE WHAT IT READS IS OF BULK AT MOST 1048576: true; the input reads as it did. -/
def budgetMarksUptoRow : OpenClaim := { program := "ytnbdmjbpgaeacaagreatdoor", sum := "2fff89e6056a60899c4392c3958c2c2fcd704f3e2da9aca442a07ead7cca4381", func := "sutler/sutlerlaw21.BudgetMarks", spec := "budgetMarks", inPlace := ["internal/bytealg.abigen_runtime_cmpstring"], unfollowed := true, recurses := true, named := ["strconv.ErrSyntax", "strconv.ErrRange", "internal/strconv.uint64pow10", "math/bits.deBruijn32tab", "math/bits.deBruijn64tab"], plainKeys := false, apart := false, laid := [("math/bits.deBruijn32tab", laid_math_bits_deBruijn32tab), ("math/bits.deBruijn64tab", laid_math_bits_deBruijn64tab), ("internal/strconv.uint64pow10", laid_internal_strconv_uint64pow10), ("strconv.ErrRange", laid_strconv_ErrRange), ("strconv.ErrSyntax", laid_strconv_ErrSyntax)], narrowed := true }
def BudgetMarksUptoSaid : Prop := budgetMarksUptoRow.holds Tryz.pinned (OpenSpec.upto budgetMarksSpec)

/-- 'sutlerlaw21.BudgetCounts', WHERE WHAT IT READS IS OF BULK AT MOST 1048576: true; the input reads as it did. -/
def budgetCountsUptoRow : OpenClaim := { program := "ytnbdmjbpgaeacaagreatdoor", sum := "2fff89e6056a60899c4392c3958c2c2fcd704f3e2da9aca442a07ead7cca4381", func := "sutler/sutlerlaw21.BudgetCounts", spec := "budgetCounts", inPlace := ["internal/bytealg.abigen_runtime_cmpstring"], unfollowed := true, recurses := true, named := ["strconv.ErrSyntax", "strconv.ErrRange", "internal/strconv.uint64pow10", "math/bits.deBruijn32tab", "math/bits.deBruijn64tab"], plainKeys := false, apart := false, laid := [("math/bits.deBruijn32tab", laid_math_bits_deBruijn32tab), ("math/bits.deBruijn64tab", laid_math_bits_deBruijn64tab), ("internal/strconv.uint64pow10", laid_internal_strconv_uint64pow10), ("strconv.ErrRange", laid_strconv_ErrRange), ("strconv.ErrSyntax", laid_strconv_ErrSyntax)], narrowed := true }
def BudgetCountsUptoSaid : Prop := budgetCountsUptoRow.holds Tryz.pinned (OpenSpec.upto budgetCountsSpec)

/-- 'sutlerlaw16.NearNear', WHERE WHAT IT READS IS OF BULK AT MOST 1048576: true; the input reads as it did. -/
def nearNearUptoRow : OpenClaim := { program := "ytnbdmjbpgaeacaagreatdoor", sum := "2fff89e6056a60899c4392c3958c2c2fcd704f3e2da9aca442a07ead7cca4381", func := "sutler/sutlerlaw16.NearNear", spec := "nearNear", inPlace := ["internal/bytealg.abigen_runtime_cmpstring"], unfollowed := true, recurses := true, named := ["strconv.ErrSyntax", "strconv.ErrRange", "internal/strconv.uint64pow10", "math/bits.deBruijn32tab", "math/bits.deBruijn64tab"], plainKeys := false, apart := false, laid := [("math/bits.deBruijn32tab", laid_math_bits_deBruijn32tab), ("math/bits.deBruijn64tab", laid_math_bits_deBruijn64tab), ("internal/strconv.uint64pow10", laid_internal_strconv_uint64pow10), ("strconv.ErrRange", laid_strconv_ErrRange), ("strconv.ErrSyntax", laid_strconv_ErrSyntax)], narrowed := true }
def NearNearUptoSaid : Prop := nearNearUptoRow.holds Tryz.pinned (OpenSpec.upto nearNearSpec)

/-- 'sutlerlaw16.NearApart', WHERE WHAT IT READS IS OF BULK AT MOST 1048576: true; the input reads as it did. -/
def nearApartUptoRow : OpenClaim := { program := "ytnbdmjbpgaeacaagreatdoor", sum := "2fff89e6056a60899c4392c3958c2c2fcd704f3e2da9aca442a07ead7cca4381", func := "sutler/sutlerlaw16.NearApart", spec := "nearApart", inPlace := ["internal/bytealg.abigen_runtime_cmpstring"], unfollowed := true, recurses := true, named := ["strconv.ErrSyntax", "strconv.ErrRange", "internal/strconv.uint64pow10", "math/bits.deBruijn32tab", "math/bits.deBruijn64tab"], plainKeys := false, apart := false, laid := [("math/bits.deBruijn32tab", laid_math_bits_deBruijn32tab), ("math/bits.deBruijn64tab", laid_math_bits_deBruijn64tab), ("internal/strconv.uint64pow10", laid_internal_strconv_uint64pow10), ("strconv.ErrRange", laid_strconv_ErrRange), ("strconv.ErrSyntax", laid_strconv_ErrSyntax)], narrowed := true }
def NearApartUptoSaid : Prop := nearApartUptoRow.holds Tryz.pinned (OpenSpec.upto nearApartSpec)

/-- 'sutlerlaw16.NearBoth', WHERE WHAT IT READS IS OF BULK AT MOST 1048576: true; the input reads as it did. -/
def nearBothUptoRow : OpenClaim := { program := "ytnbdmjbpgaeacaagreatdoor", sum := "2fff89e6056a60899c4392c3958c2c2fcd704f3e2da9aca442a07ead7cca4381", func := "sutler/sutlerlaw16.NearBoth", spec := "nearBoth", inPlace := ["internal/bytealg.abigen_runtime_cmpstring"], unfollowed := true, recurses := true, named := ["strconv.ErrSyntax", "strconv.ErrRange", "internal/strconv.uint64pow10", "math/bits.deBruijn32tab", "math/bits.deBruijn64tab"], plainKeys := false, apart := false, laid := [("math/bits.deBruijn32tab", laid_math_bits_deBruijn32tab), ("math/bits.deBruijn64tab", laid_math_bits_deBruijn64tab), ("internal/strconv.uint64pow10", laid_internal_strconv_uint64pow10), ("strconv.ErrRange", laid_strconv_ErrRange), ("strconv.ErrSyntax", laid_strconv_ErrSyntax)], narrowed := true }
def NearBothUptoSaid : Prop := nearBothUptoRow.holds Tryz.pinned (OpenSpec.upto nearBothSpec)

/-- 'sutlerlaw16.NearAlone', WHERE WHAT IT READS IS OF BULK AT MOST 1048576: true; the input reads as it did. -/
def nearAloneUptoRow : OpenClaim := { program := "ytnbdmjbpgaeacaagreatdoor", sum := "2fff89e6056a60899c4392c3958c2c2fcd704f3e2da9aca442a07ead7cca4381", func := "sutler/sutlerlaw16.NearAlone", spec := "nearAlone", inPlace := ["internal/bytealg.abigen_runtime_cmpstring"], unfollowed := true, recurses := true, named := ["strconv.ErrSyntax", "strconv.ErrRange", "internal/strconv.uint64pow10", "math/bits.deBruijn32tab", "math/bits.deBruijn64tab"], plainKeys := false, apart := false, laid := [("math/bits.deBruijn32tab", laid_math_bits_deBruijn32tab), ("math/bits.deBruijn64tab", laid_math_bits_deBruijn64tab), ("internal/strconv.uint64pow10", laid_internal_strconv_uint64pow10), ("strconv.ErrRange", laid_strconv_ErrRange), ("strconv.ErrSyntax", laid_strconv_ErrSyntax)], narrowed := true }
def NearAloneUptoSaid : Prop := nearAloneUptoRow.holds Tryz.pinned (OpenSpec.upto nearAloneSpec)

/-- 'sutlerlaw16.NearLess', WHERE WHAT IT READS IS OF BULK AT MOST 1048576: true; the input reads as it did. -/
def nearLessUptoRow : OpenClaim := { program := "ytnbdmjbpgaeacaagreatdoor", sum := "2fff89e6056a60899c4392c3958c2c2fcd704f3e2da9aca442a07ead7cca4381", func := "sutler/sutlerlaw16.NearLess", spec := "nearLess", inPlace := ["internal/bytealg.abigen_runtime_cmpstring"], unfollowed := true, recurses := true, named := ["strconv.ErrSyntax", "strconv.ErrRange", "internal/strconv.uint64pow10", "math/bits.deBruijn32tab", "math/bits.deBruijn64tab"], plainKeys := false, apart := false, laid := [("math/bits.deBruijn32tab", laid_math_bits_deBruijn32tab), ("math/bits.deBruijn64tab", laid_math_bits_deBruijn64tab), ("internal/strconv.uint64pow10", laid_internal_strconv_uint64pow10), ("strconv.ErrRange", laid_strconv_ErrRange), ("strconv.ErrSyntax", laid_strconv_ErrSyntax)], narrowed := true }
def NearLessUptoSaid : Prop := nearLessUptoRow.holds Tryz.pinned (OpenSpec.upto nearLessSpec)

/-- 'sutlerlaw15.SpreadDomains', WHERE WHAT IT READS IS OF BULK AT MOST 1048576: true; the input reads as it did. -/
def spreadDomainsUptoRow : OpenClaim := { program := "ytnbdmjbpgaeacaagreatdoor", sum := "2fff89e6056a60899c4392c3958c2c2fcd704f3e2da9aca442a07ead7cca4381", func := "sutler/sutlerlaw15.SpreadDomains", spec := "spreadDomains", inPlace := ["internal/bytealg.abigen_runtime_cmpstring"], unfollowed := true, recurses := true, named := ["strconv.ErrSyntax", "strconv.ErrRange", "internal/strconv.uint64pow10", "math/bits.deBruijn32tab", "math/bits.deBruijn64tab"], plainKeys := false, apart := false, laid := [("math/bits.deBruijn32tab", laid_math_bits_deBruijn32tab), ("math/bits.deBruijn64tab", laid_math_bits_deBruijn64tab), ("internal/strconv.uint64pow10", laid_internal_strconv_uint64pow10), ("strconv.ErrRange", laid_strconv_ErrRange), ("strconv.ErrSyntax", laid_strconv_ErrSyntax)], narrowed := true }
def SpreadDomainsUptoSaid : Prop := spreadDomainsUptoRow.holds Tryz.pinned (OpenSpec.upto spreadDomainsSpec)

/-- 'sutlerlaw15.SpreadFits', WHERE WHAT IT READS IS OF BULK AT MOST 1048576: true; the input reads as it did. -/
def spreadFitsUptoRow : OpenClaim := { program := "ytnbdmjbpgaeacaagreatdoor", sum := "2fff89e6056a60899c4392c3958c2c2fcd704f3e2da9aca442a07ead7cca4381", func := "sutler/sutlerlaw15.SpreadFits", spec := "spreadFits", inPlace := ["internal/bytealg.abigen_runtime_cmpstring"], unfollowed := true, recurses := true, named := ["strconv.ErrSyntax", "strconv.ErrRange", "internal/strconv.uint64pow10", "math/bits.deBruijn32tab", "math/bits.deBruijn64tab"], plainKeys := false, apart := false, laid := [("math/bits.deBruijn32tab", laid_math_bits_deBruijn32tab), ("math/bits.deBruijn64tab", laid_math_bits_deBruijn64tab), ("internal/strconv.uint64pow10", laid_internal_strconv_uint64pow10), ("strconv.ErrRange", laid_strconv_ErrRange), ("strconv.ErrSyntax", laid_strconv_ErrSyntax)], narrowed := true }
def SpreadFitsUptoSaid : Prop := spreadFitsUptoRow.holds Tryz.pinned (OpenSpec.upto spreadFitsSpec)

/-- 'sutlerlaw15.SpreadMore', WHERE WHAT IT READS IS OF BULK AT MOST 1048576: true; the input reads as it did. -/
def spreadMoreUptoRow : OpenClaim := { program := "ytnbdmjbpgaeacaagreatdoor", sum := "2fff89e6056a60899c4392c3958c2c2fcd704f3e2da9aca442a07ead7cca4381", func := "sutler/sutlerlaw15.SpreadMore", spec := "spreadMore", inPlace := ["internal/bytealg.abigen_runtime_cmpstring"], unfollowed := true, recurses := true, named := ["strconv.ErrSyntax", "strconv.ErrRange", "internal/strconv.uint64pow10", "math/bits.deBruijn32tab", "math/bits.deBruijn64tab"], plainKeys := false, apart := false, laid := [("math/bits.deBruijn32tab", laid_math_bits_deBruijn32tab), ("math/bits.deBruijn64tab", laid_math_bits_deBruijn64tab), ("internal/strconv.uint64pow10", laid_internal_strconv_uint64pow10), ("strconv.ErrRange", laid_strconv_ErrRange), ("strconv.ErrSyntax", laid_strconv_ErrSyntax)], narrowed := true }
def SpreadMoreUptoSaid : Prop := spreadMoreUptoRow.holds Tryz.pinned (OpenSpec.upto spreadMoreSpec)

/-- 'sutlerlaw15.SpreadLeast', WHERE WHAT IT READS IS OF BULK AT MOST 1048576: true; the input reads as it did. -/
def spreadLeastUptoRow : OpenClaim := { program := "ytnbdmjbpgaeacaagreatdoor", sum := "2fff89e6056a60899c4392c3958c2c2fcd704f3e2da9aca442a07ead7cca4381", func := "sutler/sutlerlaw15.SpreadLeast", spec := "spreadLeast", inPlace := ["internal/bytealg.abigen_runtime_cmpstring"], unfollowed := true, recurses := true, named := ["strconv.ErrSyntax", "strconv.ErrRange", "internal/strconv.uint64pow10", "math/bits.deBruijn32tab", "math/bits.deBruijn64tab"], plainKeys := false, apart := false, laid := [("math/bits.deBruijn32tab", laid_math_bits_deBruijn32tab), ("math/bits.deBruijn64tab", laid_math_bits_deBruijn64tab), ("internal/strconv.uint64pow10", laid_internal_strconv_uint64pow10), ("strconv.ErrRange", laid_strconv_ErrRange), ("strconv.ErrSyntax", laid_strconv_ErrSyntax)], narrowed := true }
def SpreadLeastUptoSaid : Prop := spreadLeastUptoRow.holds Tryz.pinned (OpenSpec.upto spreadLeastSpec)

/-- 'sutlerlaw15.SpreadCounts', WHERE WHAT IT READS IS OF BULK AT MOST 1048576: true; the input reads as it did. -/
def spreadCountsUptoRow : OpenClaim := { program := "ytnbdmjbpgaeacaagreatdoor", sum := "2fff89e6056a60899c4392c3958c2c2fcd704f3e2da9aca442a07ead7cca4381", func := "sutler/sutlerlaw15.SpreadCounts", spec := "spreadCounts", inPlace := ["internal/bytealg.abigen_runtime_cmpstring"], unfollowed := true, recurses := true, named := ["strconv.ErrSyntax", "strconv.ErrRange", "internal/strconv.uint64pow10", "math/bits.deBruijn32tab", "math/bits.deBruijn64tab"], plainKeys := false, apart := false, laid := [("math/bits.deBruijn32tab", laid_math_bits_deBruijn32tab), ("math/bits.deBruijn64tab", laid_math_bits_deBruijn64tab), ("internal/strconv.uint64pow10", laid_internal_strconv_uint64pow10), ("strconv.ErrRange", laid_strconv_ErrRange), ("strconv.ErrSyntax", laid_strconv_ErrSyntax)], narrowed := true }
def SpreadCountsUptoSaid : Prop := spreadCountsUptoRow.holds Tryz.pinned (OpenSpec.upto spreadCountsSpec)

/-- 'sutlerlaw17.FitWhy', WHERE WHAT IT READS IS OF BULK AT MOST 1048576: true; the input reads as it did. -/
def fitWhyUptoRow : OpenClaim := { program := "ytnbdmjbpgaeacaagreatdoor", sum := "2fff89e6056a60899c4392c3958c2c2fcd704f3e2da9aca442a07ead7cca4381", func := "sutler/sutlerlaw17.FitWhy", spec := "fitWhy", inPlace := ["internal/bytealg.abigen_runtime_cmpstring"], unfollowed := true, recurses := true, named := ["strconv.ErrSyntax", "strconv.ErrRange", "internal/strconv.uint64pow10", "math/bits.deBruijn32tab", "math/bits.deBruijn64tab"], plainKeys := false, apart := false, laid := [("math/bits.deBruijn32tab", laid_math_bits_deBruijn32tab), ("math/bits.deBruijn64tab", laid_math_bits_deBruijn64tab), ("internal/strconv.uint64pow10", laid_internal_strconv_uint64pow10), ("strconv.ErrRange", laid_strconv_ErrRange), ("strconv.ErrSyntax", laid_strconv_ErrSyntax)], narrowed := true }
def FitWhyUptoSaid : Prop := fitWhyUptoRow.holds Tryz.pinned (OpenSpec.upto fitWhySpec)

/-- 'sutlerlaw17.FitLayers', WHERE WHAT IT READS IS OF BULK AT MOST 1048576: true; the input reads as it did. -/
def fitLayersUptoRow : OpenClaim := { program := "ytnbdmjbpgaeacaagreatdoor", sum := "2fff89e6056a60899c4392c3958c2c2fcd704f3e2da9aca442a07ead7cca4381", func := "sutler/sutlerlaw17.FitLayers", spec := "fitLayers", inPlace := ["internal/bytealg.abigen_runtime_cmpstring"], unfollowed := true, recurses := true, named := ["strconv.ErrSyntax", "strconv.ErrRange", "internal/strconv.uint64pow10", "math/bits.deBruijn32tab", "math/bits.deBruijn64tab"], plainKeys := false, apart := false, laid := [("math/bits.deBruijn32tab", laid_math_bits_deBruijn32tab), ("math/bits.deBruijn64tab", laid_math_bits_deBruijn64tab), ("internal/strconv.uint64pow10", laid_internal_strconv_uint64pow10), ("strconv.ErrRange", laid_strconv_ErrRange), ("strconv.ErrSyntax", laid_strconv_ErrSyntax)], narrowed := true }
def FitLayersUptoSaid : Prop := fitLayersUptoRow.holds Tryz.pinned (OpenSpec.upto fitLayersSpec)

/-- 'sutlerlaw17.FitLess', WHERE WHAT IT READS IS OF BULK AT MOST 1048576: true; the input reads as it did. -/
def fitLessUptoRow : OpenClaim := { program := "ytnbdmjbpgaeacaagreatdoor", sum := "2fff89e6056a60899c4392c3958c2c2fcd704f3e2da9aca442a07ead7cca4381", func := "sutler/sutlerlaw17.FitLess", spec := "fitLess", inPlace := ["internal/bytealg.abigen_runtime_cmpstring"], unfollowed := true, recurses := true, named := ["strconv.ErrSyntax", "strconv.ErrRange", "internal/strconv.uint64pow10", "math/bits.deBruijn32tab", "math/bits.deBruijn64tab"], plainKeys := false, apart := false, laid := [("math/bits.deBruijn32tab", laid_math_bits_deBruijn32tab), ("math/bits.deBruijn64tab", laid_math_bits_deBruijn64tab), ("internal/strconv.uint64pow10", laid_internal_strconv_uint64pow10), ("strconv.ErrRange", laid_strconv_ErrRange), ("strconv.ErrSyntax", laid_strconv_ErrSyntax)], narrowed := true }
def FitLessUptoSaid : Prop := fitLessUptoRow.holds Tryz.pinned (OpenSpec.upto fitLessSpec)

/-- 'sutlerlaw17.FitAgain', WHERE WHAT IT READS IS OF BULK AT MOST 1048576: true; the input reads as it did. -/
def fitAgainUptoRow : OpenClaim := { program := "ytnbdmjbpgaeacaagreatdoor", sum := "2fff89e6056a60899c4392c3958c2c2fcd704f3e2da9aca442a07ead7cca4381", func := "sutler/sutlerlaw17.FitAgain", spec := "fitAgain", inPlace := ["internal/bytealg.abigen_runtime_cmpstring"], unfollowed := true, recurses := true, named := ["strconv.ErrSyntax", "strconv.ErrRange", "internal/strconv.uint64pow10", "math/bits.deBruijn32tab", "math/bits.deBruijn64tab"], plainKeys := false, apart := false, laid := [("math/bits.deBruijn32tab", laid_math_bits_deBruijn32tab), ("math/bits.deBruijn64tab", laid_math_bits_deBruijn64tab), ("internal/strconv.uint64pow10", laid_internal_strconv_uint64pow10), ("strconv.ErrRange", laid_strconv_ErrRange), ("strconv.ErrSyntax", laid_strconv_ErrSyntax)], narrowed := true }
def FitAgainUptoSaid : Prop := fitAgainUptoRow.holds Tryz.pinned (OpenSpec.upto fitAgainSpec)

end Rows
end Go.Proofs.YtnbdmjbpgaeacaaGreatDoor
