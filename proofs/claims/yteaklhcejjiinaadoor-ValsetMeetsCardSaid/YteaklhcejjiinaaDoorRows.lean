/-
  NARROWER THAN 'FOR EVERY INPUT', by the rows' own cells (each row's printed sentence says how): ValsetNumbers: laid · ValsetTexts: laid · ValsetOf: laid · ValsetChecks: laid · ValsetMeets: laid · ValsetAdmits: laid · ValsetTurns: laid · ValsetBoth: laid · ValsetAsks: laid.
  DERIVED. THE GIVEN ROWS OF THIS SEAT. 9 by the template 'for every input the law returns true; each argument reads behind the call as it read before'; 0 by the template 'total and deterministic' (their statements: YteaklhcejjiinaaDoorTotals.lean).
  GIVEN WITH THE SEED: the statements are not yours to turn. If you find one false, say at which input.
  Laid BY PROGRAM, IN A SANDBOX (cutbox-rows.mjs): the forced cells as the released guide's own fill.sh prints them over the translation 23a423ada460631a… (all of the seat's roots in one cut). By AI agents, Wed Nov 11 2026. No macro, syntax, notation, axiom, sorry.
-/
import Derived.Test.YteaklhcejjiinaaDoorChecked
import GoSem.Claim
import GoSem.ClaimJoined
import GoSem.ClaimMapViews
import Derived.JoinedTies
import Derived.KernelRfl
namespace Go.Proofs.YteaklhcejjiinaaDoor
/- THE CELL 'sum', in the pinned program and in every row, IS THE sha256 OF THE DUMP (.gsa) THAT YteaklhcejjiinaaDoorProg.lean LOADS. Nothing in Lean hashes anything: it is a label: what it is worth is what the hold of that sum in a sandbox is worth. -/
noncomputable def Tryd.pinned : Pinned := { name := "yteaklhcejjiinaadoor", sum := "23a423ada460631af05989b56f46157b0f71c439f3a08224cf5e9445b7447bbb", checked := Tryd.checked }
namespace Rows
def none {H : Type} : Left H := { results := [], args := [] }

/- WHAT THE LISTED PACKAGE-LEVEL VARIABLES READ AS WHEN THE CALL BEGINS. Each datum BY PROGRAM (the guide's laid-datum.mjs) off the statement by which the dump's own 'gosem.cut.vars' lays the variable. In a bare row this is a premise. The card (YteaklhcejjiinaaDoorCards.lean) ties it to the program's text. -/
def laid_math_bits_deBruijn32tab {H : Type} : DataW H := .agg [.lit (.int .u8 0), .lit (.int .u8 1), .lit (.int .u8 28), .lit (.int .u8 2), .lit (.int .u8 29), .lit (.int .u8 14), .lit (.int .u8 24), .lit (.int .u8 3), .lit (.int .u8 30), .lit (.int .u8 22), .lit (.int .u8 20), .lit (.int .u8 15), .lit (.int .u8 25), .lit (.int .u8 17), .lit (.int .u8 4), .lit (.int .u8 8), .lit (.int .u8 31), .lit (.int .u8 27), .lit (.int .u8 13), .lit (.int .u8 23), .lit (.int .u8 21), .lit (.int .u8 19), .lit (.int .u8 16), .lit (.int .u8 7), .lit (.int .u8 26), .lit (.int .u8 12), .lit (.int .u8 18), .lit (.int .u8 6), .lit (.int .u8 11), .lit (.int .u8 5), .lit (.int .u8 10), .lit (.int .u8 9)]
def laid_math_bits_deBruijn64tab {H : Type} : DataW H := .agg [.lit (.int .u8 0), .lit (.int .u8 1), .lit (.int .u8 56), .lit (.int .u8 2), .lit (.int .u8 57), .lit (.int .u8 49), .lit (.int .u8 28), .lit (.int .u8 3), .lit (.int .u8 61), .lit (.int .u8 58), .lit (.int .u8 42), .lit (.int .u8 50), .lit (.int .u8 38), .lit (.int .u8 29), .lit (.int .u8 17), .lit (.int .u8 4), .lit (.int .u8 62), .lit (.int .u8 47), .lit (.int .u8 59), .lit (.int .u8 36), .lit (.int .u8 45), .lit (.int .u8 43), .lit (.int .u8 51), .lit (.int .u8 22), .lit (.int .u8 53), .lit (.int .u8 39), .lit (.int .u8 33), .lit (.int .u8 30), .lit (.int .u8 24), .lit (.int .u8 18), .lit (.int .u8 12), .lit (.int .u8 5), .lit (.int .u8 63), .lit (.int .u8 55), .lit (.int .u8 48), .lit (.int .u8 27), .lit (.int .u8 60), .lit (.int .u8 41), .lit (.int .u8 37), .lit (.int .u8 16), .lit (.int .u8 46), .lit (.int .u8 35), .lit (.int .u8 44), .lit (.int .u8 21), .lit (.int .u8 52), .lit (.int .u8 32), .lit (.int .u8 23), .lit (.int .u8 11), .lit (.int .u8 54), .lit (.int .u8 26), .lit (.int .u8 40), .lit (.int .u8 15), .lit (.int .u8 34), .lit (.int .u8 20), .lit (.int .u8 31), .lit (.int .u8 10), .lit (.int .u8 25), .lit (.int .u8 14), .lit (.int .u8 19), .lit (.int .u8 9), .lit (.int .u8 13), .lit (.int .u8 8), .lit (.int .u8 7), .lit (.int .u8 6)]
def laid_internal_strconv_uint64pow10 {H : Type} : DataW H := .agg [.lit (.int .u64 1), .lit (.int .u64 10), .lit (.int .u64 100), .lit (.int .u64 1000), .lit (.int .u64 10000), .lit (.int .u64 100000), .lit (.int .u64 1000000), .lit (.int .u64 10000000), .lit (.int .u64 100000000), .lit (.int .u64 1000000000), .lit (.int .u64 10000000000), .lit (.int .u64 100000000000), .lit (.int .u64 1000000000000), .lit (.int .u64 10000000000000), .lit (.int .u64 100000000000000), .lit (.int .u64 1000000000000000), .lit (.int .u64 10000000000000000), .lit (.int .u64 100000000000000000), .lit (.int .u64 1000000000000000000), .lit (.int .u64 10000000000000000000)]
def laid_strconv_ErrRange {H : Type} : DataW H := .iface "*errors.errorString" (.ptr (.agg [.lit (.string [118, 97, 108, 117, 101, 32, 111, 117, 116, 32, 111, 102, 32, 114, 97, 110, 103, 101])]))
def laid_strconv_ErrSyntax {H : Type} : DataW H := .iface "*errors.errorString" (.ptr (.agg [.lit (.string [105, 110, 118, 97, 108, 105, 100, 32, 115, 121, 110, 116, 97, 120])]))

/-- 'sutlerlaw03.ValsetNumbers': WHATEVER THE INPUT: true; the input reads as it did. -/
def valsetNumbersSpec : ChangeSpec := { name := "valsetNumbers", fn := fun _ => fun
  | [] => { results := [.lit (.bool true)], args := [] }
  | _ => none }
def valsetNumbersRow : OpenClaim := { program := "yteaklhcejjiinaadoor", sum := "23a423ada460631af05989b56f46157b0f71c439f3a08224cf5e9445b7447bbb", func := "sutler/sutlerlaw03.ValsetNumbers", spec := "valsetNumbers", unfollowed := true, recurses := true, named := ["strconv.ErrSyntax", "strconv.ErrRange", "internal/strconv.uint64pow10", "math/bits.deBruijn32tab", "math/bits.deBruijn64tab"], apart := false, laid := [("math/bits.deBruijn32tab", laid_math_bits_deBruijn32tab), ("math/bits.deBruijn64tab", laid_math_bits_deBruijn64tab), ("internal/strconv.uint64pow10", laid_internal_strconv_uint64pow10), ("strconv.ErrRange", laid_strconv_ErrRange), ("strconv.ErrSyntax", laid_strconv_ErrSyntax)] }
def ValsetNumbersSaid : Prop := valsetNumbersRow.holds Tryd.pinned (OpenSpec.ofChange valsetNumbersSpec)

/-- ITS FALSE NEIGHBOUR: 'it returns false'. Refute it at one input. -/
def valsetNumbersWrong : ChangeSpec := { name := "valsetNumbers", fn := fun _ => fun
  | [] => { results := [.lit (.bool false)], args := [] }
  | _ => none }
def ValsetNumbersWrongFalsely : Prop := valsetNumbersRow.holds Tryd.pinned (OpenSpec.ofChange valsetNumbersWrong)

/-- 'sutlerlaw03.ValsetTexts': WHATEVER THE INPUT: true; the input reads as it did. -/
def valsetTextsSpec : ChangeSpec := { name := "valsetTexts", fn := fun _ => fun
  | [d] => { results := [.lit (.bool true)], args := [d] }
  | _ => none }
def valsetTextsRow : OpenClaim := { program := "yteaklhcejjiinaadoor", sum := "23a423ada460631af05989b56f46157b0f71c439f3a08224cf5e9445b7447bbb", func := "sutler/sutlerlaw03.ValsetTexts", spec := "valsetTexts", unfollowed := true, recurses := true, named := ["strconv.ErrSyntax", "strconv.ErrRange", "internal/strconv.uint64pow10", "math/bits.deBruijn32tab", "math/bits.deBruijn64tab"], apart := false, laid := [("math/bits.deBruijn32tab", laid_math_bits_deBruijn32tab), ("math/bits.deBruijn64tab", laid_math_bits_deBruijn64tab), ("internal/strconv.uint64pow10", laid_internal_strconv_uint64pow10), ("strconv.ErrRange", laid_strconv_ErrRange), ("strconv.ErrSyntax", laid_strconv_ErrSyntax)] }
def ValsetTextsSaid : Prop := valsetTextsRow.holds Tryd.pinned (OpenSpec.ofChange valsetTextsSpec)

/-- ITS FALSE NEIGHBOUR: 'it returns false'. Refute it at one input. -/
def valsetTextsWrong : ChangeSpec := { name := "valsetTexts", fn := fun _ => fun
  | [d] => { results := [.lit (.bool false)], args := [d] }
  | _ => none }
def ValsetTextsWrongFalsely : Prop := valsetTextsRow.holds Tryd.pinned (OpenSpec.ofChange valsetTextsWrong)

/-- 'sutlerlaw03.ValsetOf': WHATEVER THE INPUT: true; the input reads as it did. -/
def valsetOfSpec : ChangeSpec := { name := "valsetOf", fn := fun _ => fun
  | [d] => { results := [.lit (.bool true)], args := [d] }
  | _ => none }
def valsetOfRow : OpenClaim := { program := "yteaklhcejjiinaadoor", sum := "23a423ada460631af05989b56f46157b0f71c439f3a08224cf5e9445b7447bbb", func := "sutler/sutlerlaw03.ValsetOf", spec := "valsetOf", unfollowed := true, recurses := true, named := ["strconv.ErrSyntax", "strconv.ErrRange", "internal/strconv.uint64pow10", "math/bits.deBruijn32tab", "math/bits.deBruijn64tab"], apart := false, laid := [("math/bits.deBruijn32tab", laid_math_bits_deBruijn32tab), ("math/bits.deBruijn64tab", laid_math_bits_deBruijn64tab), ("internal/strconv.uint64pow10", laid_internal_strconv_uint64pow10), ("strconv.ErrRange", laid_strconv_ErrRange), ("strconv.ErrSyntax", laid_strconv_ErrSyntax)] }
def ValsetOfSaid : Prop := valsetOfRow.holds Tryd.pinned (OpenSpec.ofChange valsetOfSpec)

/-- ITS FALSE NEIGHBOUR: 'it returns false'. Refute it at one input. -/
def valsetOfWrong : ChangeSpec := { name := "valsetOf", fn := fun _ => fun
  | [d] => { results := [.lit (.bool false)], args := [d] }
  | _ => none }
def ValsetOfWrongFalsely : Prop := valsetOfRow.holds Tryd.pinned (OpenSpec.ofChange valsetOfWrong)

/-- 'sutlerlaw03.ValsetChecks': WHATEVER THE INPUT: true; the input reads as it did. -/
def valsetChecksSpec : ChangeSpec := { name := "valsetChecks", fn := fun _ => fun
  | [d] => { results := [.lit (.bool true)], args := [d] }
  | _ => none }
def valsetChecksRow : OpenClaim := { program := "yteaklhcejjiinaadoor", sum := "23a423ada460631af05989b56f46157b0f71c439f3a08224cf5e9445b7447bbb", func := "sutler/sutlerlaw03.ValsetChecks", spec := "valsetChecks", unfollowed := true, recurses := true, named := ["strconv.ErrSyntax", "strconv.ErrRange", "internal/strconv.uint64pow10", "math/bits.deBruijn32tab", "math/bits.deBruijn64tab"], apart := false, laid := [("math/bits.deBruijn32tab", laid_math_bits_deBruijn32tab), ("math/bits.deBruijn64tab", laid_math_bits_deBruijn64tab), ("internal/strconv.uint64pow10", laid_internal_strconv_uint64pow10), ("strconv.ErrRange", laid_strconv_ErrRange), ("strconv.ErrSyntax", laid_strconv_ErrSyntax)] }
def ValsetChecksSaid : Prop := valsetChecksRow.holds Tryd.pinned (OpenSpec.ofChange valsetChecksSpec)

/-- ITS FALSE NEIGHBOUR: 'it returns false'. Refute it at one input. -/
def valsetChecksWrong : ChangeSpec := { name := "valsetChecks", fn := fun _ => fun
  | [d] => { results := [.lit (.bool false)], args := [d] }
  | _ => none }
def ValsetChecksWrongFalsely : Prop := valsetChecksRow.holds Tryd.pinned (OpenSpec.ofChange valsetChecksWrong)

/-- 'sutlerlaw03.ValsetMeets': WHATEVER THE INPUT: true; the input reads as it did. -/
def valsetMeetsSpec : ChangeSpec := { name := "valsetMeets", fn := fun _ => fun
  | [d1, d2] => { results := [.lit (.bool true)], args := [d1, d2] }
  | _ => none }
def valsetMeetsRow : OpenClaim := { program := "yteaklhcejjiinaadoor", sum := "23a423ada460631af05989b56f46157b0f71c439f3a08224cf5e9445b7447bbb", func := "sutler/sutlerlaw03.ValsetMeets", spec := "valsetMeets", unfollowed := true, recurses := true, named := ["strconv.ErrSyntax", "strconv.ErrRange", "internal/strconv.uint64pow10", "math/bits.deBruijn32tab", "math/bits.deBruijn64tab"], apart := false, laid := [("math/bits.deBruijn32tab", laid_math_bits_deBruijn32tab), ("math/bits.deBruijn64tab", laid_math_bits_deBruijn64tab), ("internal/strconv.uint64pow10", laid_internal_strconv_uint64pow10), ("strconv.ErrRange", laid_strconv_ErrRange), ("strconv.ErrSyntax", laid_strconv_ErrSyntax)] }
def ValsetMeetsSaid : Prop := valsetMeetsRow.holds Tryd.pinned (OpenSpec.ofChange valsetMeetsSpec)

/-- ITS FALSE NEIGHBOUR: 'it returns false'. Refute it at one input. -/
def valsetMeetsWrong : ChangeSpec := { name := "valsetMeets", fn := fun _ => fun
  | [d1, d2] => { results := [.lit (.bool false)], args := [d1, d2] }
  | _ => none }
def ValsetMeetsWrongFalsely : Prop := valsetMeetsRow.holds Tryd.pinned (OpenSpec.ofChange valsetMeetsWrong)

/-- 'sutlerlaw03.ValsetAdmits': WHATEVER THE INPUT: true; the input reads as it did. -/
def valsetAdmitsSpec : ChangeSpec := { name := "valsetAdmits", fn := fun _ => fun
  | [d1, d2] => { results := [.lit (.bool true)], args := [d1, d2] }
  | _ => none }
def valsetAdmitsRow : OpenClaim := { program := "yteaklhcejjiinaadoor", sum := "23a423ada460631af05989b56f46157b0f71c439f3a08224cf5e9445b7447bbb", func := "sutler/sutlerlaw03.ValsetAdmits", spec := "valsetAdmits", unfollowed := true, recurses := true, named := ["strconv.ErrSyntax", "strconv.ErrRange", "internal/strconv.uint64pow10", "math/bits.deBruijn32tab", "math/bits.deBruijn64tab"], apart := false, laid := [("math/bits.deBruijn32tab", laid_math_bits_deBruijn32tab), ("math/bits.deBruijn64tab", laid_math_bits_deBruijn64tab), ("internal/strconv.uint64pow10", laid_internal_strconv_uint64pow10), ("strconv.ErrRange", laid_strconv_ErrRange), ("strconv.ErrSyntax", laid_strconv_ErrSyntax)] }
def ValsetAdmitsSaid : Prop := valsetAdmitsRow.holds Tryd.pinned (OpenSpec.ofChange valsetAdmitsSpec)

/-- ITS FALSE NEIGHBOUR: 'it returns false'. Refute it at one input. -/
def valsetAdmitsWrong : ChangeSpec := { name := "valsetAdmits", fn := fun _ => fun
  | [d1, d2] => { results := [.lit (.bool false)], args := [d1, d2] }
  | _ => none }
def ValsetAdmitsWrongFalsely : Prop := valsetAdmitsRow.holds Tryd.pinned (OpenSpec.ofChange valsetAdmitsWrong)

/-- 'sutlerlaw03.ValsetTurns': WHATEVER THE INPUT: true; the input reads as it did. -/
def valsetTurnsSpec : ChangeSpec := { name := "valsetTurns", fn := fun _ => fun
  | [d1, d2, d3] => { results := [.lit (.bool true)], args := [d1, d2, d3] }
  | _ => none }
def valsetTurnsRow : OpenClaim := { program := "yteaklhcejjiinaadoor", sum := "23a423ada460631af05989b56f46157b0f71c439f3a08224cf5e9445b7447bbb", func := "sutler/sutlerlaw03.ValsetTurns", spec := "valsetTurns", unfollowed := true, recurses := true, named := ["strconv.ErrSyntax", "strconv.ErrRange", "internal/strconv.uint64pow10", "math/bits.deBruijn32tab", "math/bits.deBruijn64tab"], apart := false, laid := [("math/bits.deBruijn32tab", laid_math_bits_deBruijn32tab), ("math/bits.deBruijn64tab", laid_math_bits_deBruijn64tab), ("internal/strconv.uint64pow10", laid_internal_strconv_uint64pow10), ("strconv.ErrRange", laid_strconv_ErrRange), ("strconv.ErrSyntax", laid_strconv_ErrSyntax)] }
def ValsetTurnsSaid : Prop := valsetTurnsRow.holds Tryd.pinned (OpenSpec.ofChange valsetTurnsSpec)

/-- ITS FALSE NEIGHBOUR: 'it returns false'. Refute it at one input. -/
def valsetTurnsWrong : ChangeSpec := { name := "valsetTurns", fn := fun _ => fun
  | [d1, d2, d3] => { results := [.lit (.bool false)], args := [d1, d2, d3] }
  | _ => none }
def ValsetTurnsWrongFalsely : Prop := valsetTurnsRow.holds Tryd.pinned (OpenSpec.ofChange valsetTurnsWrong)

/-- 'sutlerlaw03.ValsetBoth': WHATEVER THE INPUT: true; the input reads as it did. -/
def valsetBothSpec : ChangeSpec := { name := "valsetBoth", fn := fun _ => fun
  | [d1, d2, d3] => { results := [.lit (.bool true)], args := [d1, d2, d3] }
  | _ => none }
def valsetBothRow : OpenClaim := { program := "yteaklhcejjiinaadoor", sum := "23a423ada460631af05989b56f46157b0f71c439f3a08224cf5e9445b7447bbb", func := "sutler/sutlerlaw03.ValsetBoth", spec := "valsetBoth", unfollowed := true, recurses := true, named := ["strconv.ErrSyntax", "strconv.ErrRange", "internal/strconv.uint64pow10", "math/bits.deBruijn32tab", "math/bits.deBruijn64tab"], apart := false, laid := [("math/bits.deBruijn32tab", laid_math_bits_deBruijn32tab), ("math/bits.deBruijn64tab", laid_math_bits_deBruijn64tab), ("internal/strconv.uint64pow10", laid_internal_strconv_uint64pow10), ("strconv.ErrRange", laid_strconv_ErrRange), ("strconv.ErrSyntax", laid_strconv_ErrSyntax)] }
def ValsetBothSaid : Prop := valsetBothRow.holds Tryd.pinned (OpenSpec.ofChange valsetBothSpec)

/-- ITS FALSE NEIGHBOUR: 'it returns false'. Refute it at one input. -/
def valsetBothWrong : ChangeSpec := { name := "valsetBoth", fn := fun _ => fun
  | [d1, d2, d3] => { results := [.lit (.bool false)], args := [d1, d2, d3] }
  | _ => none }
def ValsetBothWrongFalsely : Prop := valsetBothRow.holds Tryd.pinned (OpenSpec.ofChange valsetBothWrong)

/-- 'sutlerlaw03.ValsetAsks': WHATEVER THE INPUT: true; the input reads as it did. -/
def valsetAsksSpec : ChangeSpec := { name := "valsetAsks", fn := fun _ => fun
  | [d1, d2, d3] => { results := [.lit (.bool true)], args := [d1, d2, d3] }
  | _ => none }
def valsetAsksRow : OpenClaim := { program := "yteaklhcejjiinaadoor", sum := "23a423ada460631af05989b56f46157b0f71c439f3a08224cf5e9445b7447bbb", func := "sutler/sutlerlaw03.ValsetAsks", spec := "valsetAsks", unfollowed := true, recurses := true, named := ["strconv.ErrSyntax", "strconv.ErrRange", "internal/strconv.uint64pow10", "math/bits.deBruijn32tab", "math/bits.deBruijn64tab"], apart := false, laid := [("math/bits.deBruijn32tab", laid_math_bits_deBruijn32tab), ("math/bits.deBruijn64tab", laid_math_bits_deBruijn64tab), ("internal/strconv.uint64pow10", laid_internal_strconv_uint64pow10), ("strconv.ErrRange", laid_strconv_ErrRange), ("strconv.ErrSyntax", laid_strconv_ErrSyntax)] }
def ValsetAsksSaid : Prop := valsetAsksRow.holds Tryd.pinned (OpenSpec.ofChange valsetAsksSpec)

/-- ITS FALSE NEIGHBOUR: 'it returns false'. Refute it at one input. -/
def valsetAsksWrong : ChangeSpec := { name := "valsetAsks", fn := fun _ => fun
  | [d1, d2, d3] => { results := [.lit (.bool false)], args := [d1, d2, d3] }
  | _ => none }
def ValsetAsksWrongFalsely : Prop := valsetAsksRow.holds Tryd.pinned (OpenSpec.ofChange valsetAsksWrong)

/- THE SECOND FORM. 'bulk': how many values and letters a reading holds, each counted each time it is reached (what is shared counts as often as it is met; a slice's spare places count too). A statement '..UptoSaid' is the law's where the arguments, and the package variables that the reading takes, are together of bulk at most 1048576: NARROWER than '..Said'. Prove '..Said' where nothing that the law and all that it calls make is longer than what came in: it says more and counts as full. Else prove '..UptoSaid'. A law counts once. -/
mutual
def uptoBulk {H : Type} : DataW H → Nat
  | .lit (.string bytes) => bytes.length + 1
  | .lit _ => 1
  | .nil => 1
  | .ptr d => uptoBulk d + 1
  | .slice elems spare => uptoBulkAll elems + uptoBulkAll spare + 1
  | .agg parts => uptoBulkAll parts + 1
  | .iface _ d => uptoBulk d + 1
  | .map entries => uptoBulkEntries entries + 1
  | .held _ => 1
def uptoBulkAll {H : Type} : List (DataW H) → Nat
  | [] => 0
  | d :: r => uptoBulk d + uptoBulkAll r
def uptoBulkEntries {H : Type} : List (Lit × DataW H) → Nat
  | [] => 0
  | x :: r => uptoBulkEntry x + uptoBulkEntries r
def uptoBulkEntry {H : Type} : Lit × DataW H → Nat
  | (.string bytes, d) => bytes.length + uptoBulk d + 1
  | (_, d) => uptoBulk d + 1
 end
def uptoSmall : (H : Type) → List (DataW H) → Bool := fun _ ds => decide (uptoBulkAll ds ≤ 1048576)
def OpenSpec.upto (s : _root_.Go.ChangeSpec) : _root_.Go.OpenSpec := { _root_.Go.OpenSpec.ofChange s with cond := some uptoSmall }

/-- 'sutlerlaw03.ValsetNumbers', WHERE WHAT IT READS IS OF BULK AT MOST 1048576: true; the input reads as it did. -/
def valsetNumbersUptoRow : OpenClaim := { program := "yteaklhcejjiinaadoor", sum := "23a423ada460631af05989b56f46157b0f71c439f3a08224cf5e9445b7447bbb", func := "sutler/sutlerlaw03.ValsetNumbers", spec := "valsetNumbers", unfollowed := true, recurses := true, named := ["strconv.ErrSyntax", "strconv.ErrRange", "internal/strconv.uint64pow10", "math/bits.deBruijn32tab", "math/bits.deBruijn64tab"], apart := false, laid := [("math/bits.deBruijn32tab", laid_math_bits_deBruijn32tab), ("math/bits.deBruijn64tab", laid_math_bits_deBruijn64tab), ("internal/strconv.uint64pow10", laid_internal_strconv_uint64pow10), ("strconv.ErrRange", laid_strconv_ErrRange), ("strconv.ErrSyntax", laid_strconv_ErrSyntax)], narrowed := true }
def ValsetNumbersUptoSaid : Prop := valsetNumbersUptoRow.holds Tryd.pinned (OpenSpec.upto valsetNumbersSpec)

/-- 'sutlerlaw03.ValsetTexts', WHERE WHAT IT READS IS OF BULK AT MOST 1048576: true; the input reads as it did. -/
def valsetTextsUptoRow : OpenClaim := { program := "yteaklhcejjiinaadoor", sum := "23a423ada460631af05989b56f46157b0f71c439f3a08224cf5e9445b7447bbb", func := "sutler/sutlerlaw03.ValsetTexts", spec := "valsetTexts", unfollowed := true, recurses := true, named := ["strconv.ErrSyntax", "strconv.ErrRange", "internal/strconv.uint64pow10", "math/bits.deBruijn32tab", "math/bits.deBruijn64tab"], apart := false, laid := [("math/bits.deBruijn32tab", laid_math_bits_deBruijn32tab), ("math/bits.deBruijn64tab", laid_math_bits_deBruijn64tab), ("internal/strconv.uint64pow10", laid_internal_strconv_uint64pow10), ("strconv.ErrRange", laid_strconv_ErrRange), ("strconv.ErrSyntax", laid_strconv_ErrSyntax)], narrowed := true }
def ValsetTextsUptoSaid : Prop := valsetTextsUptoRow.holds Tryd.pinned (OpenSpec.upto valsetTextsSpec)

/-- 'sutlerlaw03.ValsetOf', WHERE WHAT IT READS IS OF BULK AT MOST 1048576: true; the input reads as it did. -/
def valsetOfUptoRow : OpenClaim := { program := "yteaklhcejjiinaadoor", sum := "23a423ada460631af05989b56f46157b0f71c439f3a08224cf5e9445b7447bbb", func := "sutler/sutlerlaw03.ValsetOf", spec := "valsetOf", unfollowed := true, recurses := true, named := ["strconv.ErrSyntax", "strconv.ErrRange", "internal/strconv.uint64pow10", "math/bits.deBruijn32tab", "math/bits.deBruijn64tab"], apart := false, laid := [("math/bits.deBruijn32tab", laid_math_bits_deBruijn32tab), ("math/bits.deBruijn64tab", laid_math_bits_deBruijn64tab), ("internal/strconv.uint64pow10", laid_internal_strconv_uint64pow10), ("strconv.ErrRange", laid_strconv_ErrRange), ("strconv.ErrSyntax", laid_strconv_ErrSyntax)], narrowed := true }
def ValsetOfUptoSaid : Prop := valsetOfUptoRow.holds Tryd.pinned (OpenSpec.upto valsetOfSpec)

/-- 'sutlerlaw03.ValsetChecks', WHERE WHAT IT READS IS OF BULK AT MOST 1048576: true; the input reads as it did. -/
def valsetChecksUptoRow : OpenClaim := { program := "yteaklhcejjiinaadoor", sum := "23a423ada460631af05989b56f46157b0f71c439f3a08224cf5e9445b7447bbb", func := "sutler/sutlerlaw03.ValsetChecks", spec := "valsetChecks", unfollowed := true, recurses := true, named := ["strconv.ErrSyntax", "strconv.ErrRange", "internal/strconv.uint64pow10", "math/bits.deBruijn32tab", "math/bits.deBruijn64tab"], apart := false, laid := [("math/bits.deBruijn32tab", laid_math_bits_deBruijn32tab), ("math/bits.deBruijn64tab", laid_math_bits_deBruijn64tab), ("internal/strconv.uint64pow10", laid_internal_strconv_uint64pow10), ("strconv.ErrRange", laid_strconv_ErrRange), ("strconv.ErrSyntax", laid_strconv_ErrSyntax)], narrowed := true }
def ValsetChecksUptoSaid : Prop := valsetChecksUptoRow.holds Tryd.pinned (OpenSpec.upto valsetChecksSpec)

/-- 'sutlerlaw03.ValsetMeets', WHERE WHAT IT READS IS OF BULK AT MOST 1048576: true; the input reads as it did. -/
def valsetMeetsUptoRow : OpenClaim := { program := "yteaklhcejjiinaadoor", sum := "23a423ada460631af05989b56f46157b0f71c439f3a08224cf5e9445b7447bbb", func := "sutler/sutlerlaw03.ValsetMeets", spec := "valsetMeets", unfollowed := true, recurses := true, named := ["strconv.ErrSyntax", "strconv.ErrRange", "internal/strconv.uint64pow10", "math/bits.deBruijn32tab", "math/bits.deBruijn64tab"], apart := false, laid := [("math/bits.deBruijn32tab", laid_math_bits_deBruijn32tab), ("math/bits.deBruijn64tab", laid_math_bits_deBruijn64tab), ("internal/strconv.uint64pow10", laid_internal_strconv_uint64pow10), ("strconv.ErrRange", laid_strconv_ErrRange), ("strconv.ErrSyntax", laid_strconv_ErrSyntax)], narrowed := true }
def ValsetMeetsUptoSaid : Prop := valsetMeetsUptoRow.holds Tryd.pinned (OpenSpec.upto valsetMeetsSpec)

/-- 'sutlerlaw03.ValsetAdmits', WHERE WHAT IT READS IS OF BULK AT MOST 1048576: true; the input reads as it did. -/
def valsetAdmitsUptoRow : OpenClaim := { program := "yteaklhcejjiinaadoor", sum := "23a423ada460631af05989b56f46157b0f71c439f3a08224cf5e9445b7447bbb", func := "sutler/sutlerlaw03.ValsetAdmits", spec := "valsetAdmits", unfollowed := true, recurses := true, named := ["strconv.ErrSyntax", "strconv.ErrRange", "internal/strconv.uint64pow10", "math/bits.deBruijn32tab", "math/bits.deBruijn64tab"], apart := false, laid := [("math/bits.deBruijn32tab", laid_math_bits_deBruijn32tab), ("math/bits.deBruijn64tab", laid_math_bits_deBruijn64tab), ("internal/strconv.uint64pow10", laid_internal_strconv_uint64pow10), ("strconv.ErrRange", laid_strconv_ErrRange), ("strconv.ErrSyntax", laid_strconv_ErrSyntax)], narrowed := true }
def ValsetAdmitsUptoSaid : Prop := valsetAdmitsUptoRow.holds Tryd.pinned (OpenSpec.upto valsetAdmitsSpec)

/-- 'sutlerlaw03.ValsetTurns', WHERE WHAT IT READS IS OF BULK AT MOST 1048576: true; the input reads as it did. -/
def valsetTurnsUptoRow : OpenClaim := { program := "yteaklhcejjiinaadoor", sum := "23a423ada460631af05989b56f46157b0f71c439f3a08224cf5e9445b7447bbb", func := "sutler/sutlerlaw03.ValsetTurns", spec := "valsetTurns", unfollowed := true, recurses := true, named := ["strconv.ErrSyntax", "strconv.ErrRange", "internal/strconv.uint64pow10", "math/bits.deBruijn32tab", "math/bits.deBruijn64tab"], apart := false, laid := [("math/bits.deBruijn32tab", laid_math_bits_deBruijn32tab), ("math/bits.deBruijn64tab", laid_math_bits_deBruijn64tab), ("internal/strconv.uint64pow10", laid_internal_strconv_uint64pow10), ("strconv.ErrRange", laid_strconv_ErrRange), ("strconv.ErrSyntax", laid_strconv_ErrSyntax)], narrowed := true }
def ValsetTurnsUptoSaid : Prop := valsetTurnsUptoRow.holds Tryd.pinned (OpenSpec.upto valsetTurnsSpec)

/-- 'sutlerlaw03.ValsetBoth', WHERE WHAT IT READS IS OF BULK AT MOST 1048576: true; the input reads as it did. -/
def valsetBothUptoRow : OpenClaim := { program := "yteaklhcejjiinaadoor", sum := "23a423ada460631af05989b56f46157b0f71c439f3a08224cf5e9445b7447bbb", func := "sutler/sutlerlaw03.ValsetBoth", spec := "valsetBoth", unfollowed := true, recurses := true, named := ["strconv.ErrSyntax", "strconv.ErrRange", "internal/strconv.uint64pow10", "math/bits.deBruijn32tab", "math/bits.deBruijn64tab"], apart := false, laid := [("math/bits.deBruijn32tab", laid_math_bits_deBruijn32tab), ("math/bits.deBruijn64tab", laid_math_bits_deBruijn64tab), ("internal/strconv.uint64pow10", laid_internal_strconv_uint64pow10), ("strconv.ErrRange", laid_strconv_ErrRange), ("strconv.ErrSyntax", laid_strconv_ErrSyntax)], narrowed := true }
def ValsetBothUptoSaid : Prop := valsetBothUptoRow.holds Tryd.pinned (OpenSpec.upto valsetBothSpec)

/-- 'sutlerlaw03.ValsetAsks', WHERE WHAT IT READS IS OF BULK AT MOST 1048576: true; the input reads as it did. -/
def valsetAsksUptoRow : OpenClaim := { program := "yteaklhcejjiinaadoor", sum := "23a423ada460631af05989b56f46157b0f71c439f3a08224cf5e9445b7447bbb", func := "sutler/sutlerlaw03.ValsetAsks", spec := "valsetAsks", unfollowed := true, recurses := true, named := ["strconv.ErrSyntax", "strconv.ErrRange", "internal/strconv.uint64pow10", "math/bits.deBruijn32tab", "math/bits.deBruijn64tab"], apart := false, laid := [("math/bits.deBruijn32tab", laid_math_bits_deBruijn32tab), ("math/bits.deBruijn64tab", laid_math_bits_deBruijn64tab), ("internal/strconv.uint64pow10", laid_internal_strconv_uint64pow10), ("strconv.ErrRange", laid_strconv_ErrRange), ("strconv.ErrSyntax", laid_strconv_ErrSyntax)], narrowed := true }
def ValsetAsksUptoSaid : Prop := valsetAsksUptoRow.holds Tryd.pinned (OpenSpec.upto valsetAsksSpec)

end Rows
end Go.Proofs.YteaklhcejjiinaaDoor
