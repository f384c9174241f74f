/-
  NARROWER THAN 'FOR EVERY INPUT', by the rows' own cells (each row's printed sentence says how): ObjectChecks: laid · ObjectLess: laid · ObjectNodes: laid · CodecWrites: laid · CodecReads: laid · CodecBack: laid · CodecUnlike: laid · ReqsNumbers: laid · ReqsSets: laid · ReqsAdmits: laid · ReqsCan: laid · ReqsMet: laid.
  DERIVED. THE GIVEN ROWS OF THIS SEAT. 12 by the template 'for every input the law returns true; each argument reads behind the call as it read before'; 0 by the template 'total and deterministic' (their statements: YtococcgeoknmjaaGreatDoorTotals.lean).
  GIVEN WITH THE SEED: the statements are not yours to turn. If you find one false, say at which input.
  Laid BY PROGRAM, IN A SANDBOX (cutbox-rows.mjs): the forced cells as the released guide's own fill.sh prints them over the translation 42dad620c00b2f41… (all of the seat's roots in one cut). By AI agents, Wed Nov 11 2026. No macro, syntax, notation, axiom, sorry.
-/
import Derived.Test.YtococcgeoknmjaaGreatDoorChecked
import GoSem.Claim
import GoSem.ClaimJoined
import GoSem.ClaimMapViews
import Derived.JoinedTies
import Derived.KernelRfl
namespace Go.Proofs.YtococcgeoknmjaaGreatDoor
/- THE CELL 'sum', in the pinned program and in every row, IS THE sha256 OF THE DUMP (.gsa) THAT YtococcgeoknmjaaGreatDoorProg.lean LOADS. Nothing in Lean hashes anything: it is a label: what it is worth is what the hold of that sum in a sandbox is worth. -/
noncomputable def Tryz.pinned : Pinned := { name := "ytococcgeoknmjaagreatdoor", sum := "42dad620c00b2f419c7b1af0ded2706d5d595d060ad1e6d81f404f98dce16fef", checked := Tryz.checked }
namespace Rows
def none {H : Type} : Left H := { results := [], args := [] }

/- WHAT THE LISTED PACKAGE-LEVEL VARIABLES READ AS WHEN THE CALL BEGINS. Each datum BY PROGRAM (the guide's laid-datum.mjs) off the statement by which the dump's own 'gosem.cut.vars' lays the variable. In a bare row this is a premise. The card (YtococcgeoknmjaaGreatDoorCards.lean) ties it to the program's text. -/
def laid_math_bits_deBruijn32tab {H : Type} : DataW H := .agg [.lit (.int .u8 0), .lit (.int .u8 1), .lit (.int .u8 28), .lit (.int .u8 2), .lit (.int .u8 29), .lit (.int .u8 14), .lit (.int .u8 24), .lit (.int .u8 3), .lit (.int .u8 30), .lit (.int .u8 22), .lit (.int .u8 20), .lit (.int .u8 15), .lit (.int .u8 25), .lit (.int .u8 17), .lit (.int .u8 4), .lit (.int .u8 8), .lit (.int .u8 31), .lit (.int .u8 27), .lit (.int .u8 13), .lit (.int .u8 23), .lit (.int .u8 21), .lit (.int .u8 19), .lit (.int .u8 16), .lit (.int .u8 7), .lit (.int .u8 26), .lit (.int .u8 12), .lit (.int .u8 18), .lit (.int .u8 6), .lit (.int .u8 11), .lit (.int .u8 5), .lit (.int .u8 10), .lit (.int .u8 9)]
def laid_math_bits_deBruijn64tab {H : Type} : DataW H := .agg [.lit (.int .u8 0), .lit (.int .u8 1), .lit (.int .u8 56), .lit (.int .u8 2), .lit (.int .u8 57), .lit (.int .u8 49), .lit (.int .u8 28), .lit (.int .u8 3), .lit (.int .u8 61), .lit (.int .u8 58), .lit (.int .u8 42), .lit (.int .u8 50), .lit (.int .u8 38), .lit (.int .u8 29), .lit (.int .u8 17), .lit (.int .u8 4), .lit (.int .u8 62), .lit (.int .u8 47), .lit (.int .u8 59), .lit (.int .u8 36), .lit (.int .u8 45), .lit (.int .u8 43), .lit (.int .u8 51), .lit (.int .u8 22), .lit (.int .u8 53), .lit (.int .u8 39), .lit (.int .u8 33), .lit (.int .u8 30), .lit (.int .u8 24), .lit (.int .u8 18), .lit (.int .u8 12), .lit (.int .u8 5), .lit (.int .u8 63), .lit (.int .u8 55), .lit (.int .u8 48), .lit (.int .u8 27), .lit (.int .u8 60), .lit (.int .u8 41), .lit (.int .u8 37), .lit (.int .u8 16), .lit (.int .u8 46), .lit (.int .u8 35), .lit (.int .u8 44), .lit (.int .u8 21), .lit (.int .u8 52), .lit (.int .u8 32), .lit (.int .u8 23), .lit (.int .u8 11), .lit (.int .u8 54), .lit (.int .u8 26), .lit (.int .u8 40), .lit (.int .u8 15), .lit (.int .u8 34), .lit (.int .u8 20), .lit (.int .u8 31), .lit (.int .u8 10), .lit (.int .u8 25), .lit (.int .u8 14), .lit (.int .u8 19), .lit (.int .u8 9), .lit (.int .u8 13), .lit (.int .u8 8), .lit (.int .u8 7), .lit (.int .u8 6)]
def laid_internal_strconv_uint64pow10 {H : Type} : DataW H := .agg [.lit (.int .u64 1), .lit (.int .u64 10), .lit (.int .u64 100), .lit (.int .u64 1000), .lit (.int .u64 10000), .lit (.int .u64 100000), .lit (.int .u64 1000000), .lit (.int .u64 10000000), .lit (.int .u64 100000000), .lit (.int .u64 1000000000), .lit (.int .u64 10000000000), .lit (.int .u64 100000000000), .lit (.int .u64 1000000000000), .lit (.int .u64 10000000000000), .lit (.int .u64 100000000000000), .lit (.int .u64 1000000000000000), .lit (.int .u64 10000000000000000), .lit (.int .u64 100000000000000000), .lit (.int .u64 1000000000000000000), .lit (.int .u64 10000000000000000000)]
def laid_strconv_ErrRange {H : Type} : DataW H := .iface "*errors.errorString" (.ptr (.agg [.lit (.string [118, 97, 108, 117, 101, 32, 111, 117, 116, 32, 111, 102, 32, 114, 97, 110, 103, 101])]))
def laid_strconv_ErrSyntax {H : Type} : DataW H := .iface "*errors.errorString" (.ptr (.agg [.lit (.string [105, 110, 118, 97, 108, 105, 100, 32, 115, 121, 110, 116, 97, 120])]))

/-- 'sutlerlaw08.ObjectChecks': WHATEVER THE INPUT: true; the input reads as it did. -/
def objectChecksSpec : ChangeSpec := { name := "objectChecks", fn := fun _ => fun
  | [d] => { results := [.lit (.bool true)], args := [d] }
  | _ => none }
def objectChecksRow : OpenClaim := { program := "ytococcgeoknmjaagreatdoor", sum := "42dad620c00b2f419c7b1af0ded2706d5d595d060ad1e6d81f404f98dce16fef", func := "sutler/sutlerlaw08.ObjectChecks", spec := "objectChecks", inPlace := ["internal/bytealg.abigen_runtime_cmpstring", "internal/abi.NoEscape", "internal/bytealg.MakeNoZero"], unfollowed := true, recurses := true, named := ["strconv.ErrSyntax", "strconv.ErrRange", "internal/strconv.uint64pow10", "math/bits.deBruijn32tab", "math/bits.deBruijn64tab"], apart := false, laid := [("math/bits.deBruijn32tab", laid_math_bits_deBruijn32tab), ("math/bits.deBruijn64tab", laid_math_bits_deBruijn64tab), ("internal/strconv.uint64pow10", laid_internal_strconv_uint64pow10), ("strconv.ErrRange", laid_strconv_ErrRange), ("strconv.ErrSyntax", laid_strconv_ErrSyntax)] }
def ObjectChecksSaid : Prop := objectChecksRow.holds Tryz.pinned (OpenSpec.ofChange objectChecksSpec)

/-- ITS FALSE NEIGHBOUR: 'it returns false'. Refute it at one input. -/
def objectChecksWrong : ChangeSpec := { name := "objectChecks", fn := fun _ => fun
  | [d] => { results := [.lit (.bool false)], args := [d] }
  | _ => none }
def ObjectChecksWrongFalsely : Prop := objectChecksRow.holds Tryz.pinned (OpenSpec.ofChange objectChecksWrong)

/-- 'sutlerlaw08.ObjectLess': WHATEVER THE INPUT: true; the input reads as it did. -/
def objectLessSpec : ChangeSpec := { name := "objectLess", fn := fun _ => fun
  | [d1, d2] => { results := [.lit (.bool true)], args := [d1, d2] }
  | _ => none }
def objectLessRow : OpenClaim := { program := "ytococcgeoknmjaagreatdoor", sum := "42dad620c00b2f419c7b1af0ded2706d5d595d060ad1e6d81f404f98dce16fef", func := "sutler/sutlerlaw08.ObjectLess", spec := "objectLess", inPlace := ["internal/bytealg.abigen_runtime_cmpstring", "internal/abi.NoEscape", "internal/bytealg.MakeNoZero"], unfollowed := true, recurses := true, named := ["strconv.ErrSyntax", "strconv.ErrRange", "internal/strconv.uint64pow10", "math/bits.deBruijn32tab", "math/bits.deBruijn64tab"], apart := false, laid := [("math/bits.deBruijn32tab", laid_math_bits_deBruijn32tab), ("math/bits.deBruijn64tab", laid_math_bits_deBruijn64tab), ("internal/strconv.uint64pow10", laid_internal_strconv_uint64pow10), ("strconv.ErrRange", laid_strconv_ErrRange), ("strconv.ErrSyntax", laid_strconv_ErrSyntax)] }
def ObjectLessSaid : Prop := objectLessRow.holds Tryz.pinned (OpenSpec.ofChange objectLessSpec)

/-- ITS FALSE NEIGHBOUR: 'it returns false'. Refute it at one input. -/
def objectLessWrong : ChangeSpec := { name := "objectLess", fn := fun _ => fun
  | [d1, d2] => { results := [.lit (.bool false)], args := [d1, d2] }
  | _ => none }
def ObjectLessWrongFalsely : Prop := objectLessRow.holds Tryz.pinned (OpenSpec.ofChange objectLessWrong)

/-- 'sutlerlaw08.ObjectNodes': WHATEVER THE INPUT: true; the input reads as it did. -/
def objectNodesSpec : ChangeSpec := { name := "objectNodes", fn := fun _ => fun
  | [d] => { results := [.lit (.bool true)], args := [d] }
  | _ => none }
def objectNodesRow : OpenClaim := { program := "ytococcgeoknmjaagreatdoor", sum := "42dad620c00b2f419c7b1af0ded2706d5d595d060ad1e6d81f404f98dce16fef", func := "sutler/sutlerlaw08.ObjectNodes", spec := "objectNodes", inPlace := ["internal/bytealg.abigen_runtime_cmpstring", "internal/abi.NoEscape", "internal/bytealg.MakeNoZero"], unfollowed := true, recurses := true, named := ["strconv.ErrSyntax", "strconv.ErrRange", "internal/strconv.uint64pow10", "math/bits.deBruijn32tab", "math/bits.deBruijn64tab"], apart := false, laid := [("math/bits.deBruijn32tab", laid_math_bits_deBruijn32tab), ("math/bits.deBruijn64tab", laid_math_bits_deBruijn64tab), ("internal/strconv.uint64pow10", laid_internal_strconv_uint64pow10), ("strconv.ErrRange", laid_strconv_ErrRange), ("strconv.ErrSyntax", laid_strconv_ErrSyntax)] }
def ObjectNodesSaid : Prop := objectNodesRow.holds Tryz.pinned (OpenSpec.ofChange objectNodesSpec)

/-- ITS FALSE NEIGHBOUR: 'it returns false'. Refute it at one input. -/
def objectNodesWrong : ChangeSpec := { name := "objectNodes", fn := fun _ => fun
  | [d] => { results := [.lit (.bool false)], args := [d] }
  | _ => none }
def ObjectNodesWrongFalsely : Prop := objectNodesRow.holds Tryz.pinned (OpenSpec.ofChange objectNodesWrong)

/-- 'sutlerlaw09.CodecWrites': WHATEVER THE INPUT: true; the input reads as it did. -/
def codecWritesSpec : ChangeSpec := { name := "codecWrites", fn := fun _ => fun
  | [d] => { results := [.lit (.bool true)], args := [d] }
  | _ => none }
def codecWritesRow : OpenClaim := { program := "ytococcgeoknmjaagreatdoor", sum := "42dad620c00b2f419c7b1af0ded2706d5d595d060ad1e6d81f404f98dce16fef", func := "sutler/sutlerlaw09.CodecWrites", spec := "codecWrites", inPlace := ["internal/bytealg.abigen_runtime_cmpstring"], unfollowed := true, recurses := true, named := ["strconv.ErrSyntax", "strconv.ErrRange", "internal/strconv.uint64pow10", "math/bits.deBruijn32tab", "math/bits.deBruijn64tab"], apart := false, laid := [("math/bits.deBruijn32tab", laid_math_bits_deBruijn32tab), ("math/bits.deBruijn64tab", laid_math_bits_deBruijn64tab), ("internal/strconv.uint64pow10", laid_internal_strconv_uint64pow10), ("strconv.ErrRange", laid_strconv_ErrRange), ("strconv.ErrSyntax", laid_strconv_ErrSyntax)] }
def CodecWritesSaid : Prop := codecWritesRow.holds Tryz.pinned (OpenSpec.ofChange codecWritesSpec)

/-- ITS FALSE NEIGHBOUR: 'it returns false'. Refute it at one input. -/
def codecWritesWrong : ChangeSpec := { name := "codecWrites", fn := fun _ => fun
  | [d] => { results := [.lit (.bool false)], args := [d] }
  | _ => none }
def CodecWritesWrongFalsely : Prop := codecWritesRow.holds Tryz.pinned (OpenSpec.ofChange codecWritesWrong)

/-- 'sutlerlaw09.CodecReads': WHATEVER THE INPUT: true; the input reads as it did. -/
def codecReadsSpec : ChangeSpec := { name := "codecReads", fn := fun _ => fun
  | [d1, d2] => { results := [.lit (.bool true)], args := [d1, d2] }
  | _ => none }
def codecReadsRow : OpenClaim := { program := "ytococcgeoknmjaagreatdoor", sum := "42dad620c00b2f419c7b1af0ded2706d5d595d060ad1e6d81f404f98dce16fef", func := "sutler/sutlerlaw09.CodecReads", spec := "codecReads", inPlace := ["internal/bytealg.abigen_runtime_cmpstring"], unfollowed := true, recurses := true, named := ["strconv.ErrSyntax", "strconv.ErrRange", "internal/strconv.uint64pow10", "math/bits.deBruijn32tab", "math/bits.deBruijn64tab"], apart := false, laid := [("math/bits.deBruijn32tab", laid_math_bits_deBruijn32tab), ("math/bits.deBruijn64tab", laid_math_bits_deBruijn64tab), ("internal/strconv.uint64pow10", laid_internal_strconv_uint64pow10), ("strconv.ErrRange", laid_strconv_ErrRange), ("strconv.ErrSyntax", laid_strconv_ErrSyntax)] }
def CodecReadsSaid : Prop := codecReadsRow.holds Tryz.pinned (OpenSpec.ofChange codecReadsSpec)

/-- ITS FALSE NEIGHBOUR: 'it returns false'. Refute it at one input. -/
def codecReadsWrong : ChangeSpec := { name := "codecReads", fn := fun _ => fun
  | [d1, d2] => { results := [.lit (.bool false)], args := [d1, d2] }
  | _ => none }
def CodecReadsWrongFalsely : Prop := codecReadsRow.holds Tryz.pinned (OpenSpec.ofChange codecReadsWrong)

/-- 'sutlerlaw09.CodecBack': WHATEVER THE INPUT: true; the input reads as it did. -/
def codecBackSpec : ChangeSpec := { name := "codecBack", fn := fun _ => fun
  | [d1, d2, d3, d4] => { results := [.lit (.bool true)], args := [d1, d2, d3, d4] }
  | _ => none }
def codecBackRow : OpenClaim := { program := "ytococcgeoknmjaagreatdoor", sum := "42dad620c00b2f419c7b1af0ded2706d5d595d060ad1e6d81f404f98dce16fef", func := "sutler/sutlerlaw09.CodecBack", spec := "codecBack", inPlace := ["internal/bytealg.abigen_runtime_cmpstring"], unfollowed := true, recurses := true, named := ["strconv.ErrSyntax", "strconv.ErrRange", "internal/strconv.uint64pow10", "math/bits.deBruijn32tab", "math/bits.deBruijn64tab"], apart := false, laid := [("math/bits.deBruijn32tab", laid_math_bits_deBruijn32tab), ("math/bits.deBruijn64tab", laid_math_bits_deBruijn64tab), ("internal/strconv.uint64pow10", laid_internal_strconv_uint64pow10), ("strconv.ErrRange", laid_strconv_ErrRange), ("strconv.ErrSyntax", laid_strconv_ErrSyntax)] }
def CodecBackSaid : Prop := codecBackRow.holds Tryz.pinned (OpenSpec.ofChange codecBackSpec)

/-- ITS FALSE NEIGHBOUR: 'it returns false'. Refute it at one input. -/
def codecBackWrong : ChangeSpec := { name := "codecBack", fn := fun _ => fun
  | [d1, d2, d3, d4] => { results := [.lit (.bool false)], args := [d1, d2, d3, d4] }
  | _ => none }
def CodecBackWrongFalsely : Prop := codecBackRow.holds Tryz.pinned (OpenSpec.ofChange codecBackWrong)

/-- 'sutlerlaw09.CodecUnlike': WHATEVER THE INPUT: true; the input reads as it did. -/
def codecUnlikeSpec : ChangeSpec := { name := "codecUnlike", fn := fun _ => fun
  | [d1, d2] => { results := [.lit (.bool true)], args := [d1, d2] }
  | _ => none }
def codecUnlikeRow : OpenClaim := { program := "ytococcgeoknmjaagreatdoor", sum := "42dad620c00b2f419c7b1af0ded2706d5d595d060ad1e6d81f404f98dce16fef", func := "sutler/sutlerlaw09.CodecUnlike", spec := "codecUnlike", inPlace := ["internal/bytealg.abigen_runtime_cmpstring"], unfollowed := true, recurses := true, named := ["strconv.ErrSyntax", "strconv.ErrRange", "internal/strconv.uint64pow10", "math/bits.deBruijn32tab", "math/bits.deBruijn64tab"], apart := false, laid := [("math/bits.deBruijn32tab", laid_math_bits_deBruijn32tab), ("math/bits.deBruijn64tab", laid_math_bits_deBruijn64tab), ("internal/strconv.uint64pow10", laid_internal_strconv_uint64pow10), ("strconv.ErrRange", laid_strconv_ErrRange), ("strconv.ErrSyntax", laid_strconv_ErrSyntax)] }
def CodecUnlikeSaid : Prop := codecUnlikeRow.holds Tryz.pinned (OpenSpec.ofChange codecUnlikeSpec)

/-- ITS FALSE NEIGHBOUR: 'it returns false'. Refute it at one input. -/
def codecUnlikeWrong : ChangeSpec := { name := "codecUnlike", fn := fun _ => fun
  | [d1, d2] => { results := [.lit (.bool false)], args := [d1, d2] }
  | _ => none }
def CodecUnlikeWrongFalsely : Prop := codecUnlikeRow.holds Tryz.pinned (OpenSpec.ofChange codecUnlikeWrong)

/-- 'sutlerlaw04.ReqsNumbers': WHATEVER THE INPUT: true; the input reads as it did. -/
def reqsNumbersSpec : ChangeSpec := { name := "reqsNumbers", fn := fun _ => fun
  | [] => { results := [.lit (.bool true)], args := [] }
  | _ => none }
def reqsNumbersRow : OpenClaim := { program := "ytococcgeoknmjaagreatdoor", sum := "42dad620c00b2f419c7b1af0ded2706d5d595d060ad1e6d81f404f98dce16fef", func := "sutler/sutlerlaw04.ReqsNumbers", spec := "reqsNumbers", inPlace := ["internal/bytealg.abigen_runtime_cmpstring"], unfollowed := true, recurses := true, named := ["strconv.ErrSyntax", "strconv.ErrRange", "internal/strconv.uint64pow10", "math/bits.deBruijn32tab", "math/bits.deBruijn64tab"], apart := false, laid := [("math/bits.deBruijn32tab", laid_math_bits_deBruijn32tab), ("math/bits.deBruijn64tab", laid_math_bits_deBruijn64tab), ("internal/strconv.uint64pow10", laid_internal_strconv_uint64pow10), ("strconv.ErrRange", laid_strconv_ErrRange), ("strconv.ErrSyntax", laid_strconv_ErrSyntax)] }
def ReqsNumbersSaid : Prop := reqsNumbersRow.holds Tryz.pinned (OpenSpec.ofChange reqsNumbersSpec)

/-- ITS FALSE NEIGHBOUR: 'it returns false'. Refute it at one input. -/
def reqsNumbersWrong : ChangeSpec := { name := "reqsNumbers", fn := fun _ => fun
  | [] => { results := [.lit (.bool false)], args := [] }
  | _ => none }
def ReqsNumbersWrongFalsely : Prop := reqsNumbersRow.holds Tryz.pinned (OpenSpec.ofChange reqsNumbersWrong)

/-- 'sutlerlaw04.ReqsSets': WHATEVER THE INPUT: true; the input reads as it did. -/
def reqsSetsSpec : ChangeSpec := { name := "reqsSets", fn := fun _ => fun
  | [d] => { results := [.lit (.bool true)], args := [d] }
  | _ => none }
def reqsSetsRow : OpenClaim := { program := "ytococcgeoknmjaagreatdoor", sum := "42dad620c00b2f419c7b1af0ded2706d5d595d060ad1e6d81f404f98dce16fef", func := "sutler/sutlerlaw04.ReqsSets", spec := "reqsSets", inPlace := ["internal/bytealg.abigen_runtime_cmpstring"], unfollowed := true, recurses := true, named := ["strconv.ErrSyntax", "strconv.ErrRange", "internal/strconv.uint64pow10", "math/bits.deBruijn32tab", "math/bits.deBruijn64tab"], apart := false, laid := [("math/bits.deBruijn32tab", laid_math_bits_deBruijn32tab), ("math/bits.deBruijn64tab", laid_math_bits_deBruijn64tab), ("internal/strconv.uint64pow10", laid_internal_strconv_uint64pow10), ("strconv.ErrRange", laid_strconv_ErrRange), ("strconv.ErrSyntax", laid_strconv_ErrSyntax)] }
def ReqsSetsSaid : Prop := reqsSetsRow.holds Tryz.pinned (OpenSpec.ofChange reqsSetsSpec)

/-- ITS FALSE NEIGHBOUR: 'it returns false'. Refute it at one input. -/
def reqsSetsWrong : ChangeSpec := { name := "reqsSets", fn := fun _ => fun
  | [d] => { results := [.lit (.bool false)], args := [d] }
  | _ => none }
def ReqsSetsWrongFalsely : Prop := reqsSetsRow.holds Tryz.pinned (OpenSpec.ofChange reqsSetsWrong)

/-- 'sutlerlaw04.ReqsAdmits': WHATEVER THE INPUT: true; the input reads as it did. -/
def reqsAdmitsSpec : ChangeSpec := { name := "reqsAdmits", fn := fun _ => fun
  | [d1, d2] => { results := [.lit (.bool true)], args := [d1, d2] }
  | _ => none }
def reqsAdmitsRow : OpenClaim := { program := "ytococcgeoknmjaagreatdoor", sum := "42dad620c00b2f419c7b1af0ded2706d5d595d060ad1e6d81f404f98dce16fef", func := "sutler/sutlerlaw04.ReqsAdmits", spec := "reqsAdmits", inPlace := ["internal/bytealg.abigen_runtime_cmpstring"], unfollowed := true, recurses := true, named := ["strconv.ErrSyntax", "strconv.ErrRange", "internal/strconv.uint64pow10", "math/bits.deBruijn32tab", "math/bits.deBruijn64tab"], apart := false, laid := [("math/bits.deBruijn32tab", laid_math_bits_deBruijn32tab), ("math/bits.deBruijn64tab", laid_math_bits_deBruijn64tab), ("internal/strconv.uint64pow10", laid_internal_strconv_uint64pow10), ("strconv.ErrRange", laid_strconv_ErrRange), ("strconv.ErrSyntax", laid_strconv_ErrSyntax)] }
def ReqsAdmitsSaid : Prop := reqsAdmitsRow.holds Tryz.pinned (OpenSpec.ofChange reqsAdmitsSpec)

/-- ITS FALSE NEIGHBOUR: 'it returns false'. Refute it at one input. -/
def reqsAdmitsWrong : ChangeSpec := { name := "reqsAdmits", fn := fun _ => fun
  | [d1, d2] => { results := [.lit (.bool false)], args := [d1, d2] }
  | _ => none }
def ReqsAdmitsWrongFalsely : Prop := reqsAdmitsRow.holds Tryz.pinned (OpenSpec.ofChange reqsAdmitsWrong)

/-- 'sutlerlaw04.ReqsCan': WHATEVER THE INPUT: true; the input reads as it did. -/
def reqsCanSpec : ChangeSpec := { name := "reqsCan", fn := fun _ => fun
  | [d1, d2] => { results := [.lit (.bool true)], args := [d1, d2] }
  | _ => none }
def reqsCanRow : OpenClaim := { program := "ytococcgeoknmjaagreatdoor", sum := "42dad620c00b2f419c7b1af0ded2706d5d595d060ad1e6d81f404f98dce16fef", func := "sutler/sutlerlaw04.ReqsCan", spec := "reqsCan", inPlace := ["internal/bytealg.abigen_runtime_cmpstring"], unfollowed := true, recurses := true, named := ["strconv.ErrSyntax", "strconv.ErrRange", "internal/strconv.uint64pow10", "math/bits.deBruijn32tab", "math/bits.deBruijn64tab"], apart := false, laid := [("math/bits.deBruijn32tab", laid_math_bits_deBruijn32tab), ("math/bits.deBruijn64tab", laid_math_bits_deBruijn64tab), ("internal/strconv.uint64pow10", laid_internal_strconv_uint64pow10), ("strconv.ErrRange", laid_strconv_ErrRange), ("strconv.ErrSyntax", laid_strconv_ErrSyntax)] }
def ReqsCanSaid : Prop := reqsCanRow.holds Tryz.pinned (OpenSpec.ofChange reqsCanSpec)

/-- ITS FALSE NEIGHBOUR: 'it returns false'. Refute it at one input. -/
def reqsCanWrong : ChangeSpec := { name := "reqsCan", fn := fun _ => fun
  | [d1, d2] => { results := [.lit (.bool false)], args := [d1, d2] }
  | _ => none }
def ReqsCanWrongFalsely : Prop := reqsCanRow.holds Tryz.pinned (OpenSpec.ofChange reqsCanWrong)

/-- 'sutlerlaw04.ReqsMet': WHATEVER THE INPUT: true; the input reads as it did. -/
def reqsMetSpec : ChangeSpec := { name := "reqsMet", fn := fun _ => fun
  | [d1, d2] => { results := [.lit (.bool true)], args := [d1, d2] }
  | _ => none }
def reqsMetRow : OpenClaim := { program := "ytococcgeoknmjaagreatdoor", sum := "42dad620c00b2f419c7b1af0ded2706d5d595d060ad1e6d81f404f98dce16fef", func := "sutler/sutlerlaw04.ReqsMet", spec := "reqsMet", inPlace := ["internal/bytealg.abigen_runtime_cmpstring"], unfollowed := true, recurses := true, named := ["strconv.ErrSyntax", "strconv.ErrRange", "internal/strconv.uint64pow10", "math/bits.deBruijn32tab", "math/bits.deBruijn64tab"], apart := false, laid := [("math/bits.deBruijn32tab", laid_math_bits_deBruijn32tab), ("math/bits.deBruijn64tab", laid_math_bits_deBruijn64tab), ("internal/strconv.uint64pow10", laid_internal_strconv_uint64pow10), ("strconv.ErrRange", laid_strconv_ErrRange), ("strconv.ErrSyntax", laid_strconv_ErrSyntax)] }
def ReqsMetSaid : Prop := reqsMetRow.holds Tryz.pinned (OpenSpec.ofChange reqsMetSpec)

/-- ITS FALSE NEIGHBOUR: 'it returns false'. Refute it at one input. -/
def reqsMetWrong : ChangeSpec := { name := "reqsMet", fn := fun _ => fun
  | [d1, d2] => { results := [.lit (.bool false)], args := [d1, d2] }
  | _ => none }
def ReqsMetWrongFalsely : Prop := reqsMetRow.holds Tryz.pinned (OpenSpec.ofChange reqsMetWrong)

/- THE SECOND FORM. 'bulk': how many values and letters a reading holds, each counted each time it is reached (what is shared counts as often as it is met; a slice's spare places count too). A statement '..UptoSaid' is the law's where the arguments, and the package variables that the reading takes, are together of bulk at most 1048576: NARROWER than '..Said'. Prove '..Said' where nothing that the law and all that it calls make is longer than what came in: it says more and counts as full. Else prove '..UptoSaid'. A law counts once. -/
mutual
def uptoBulk {H : Type} : DataW H → Nat
  | .lit (.string bytes) => bytes.length + 1
  | .lit _ => 1
  | .nil => 1
  | .ptr d => uptoBulk d + 1
  | .slice elems spare => uptoBulkAll elems + uptoBulkAll spare + 1
  | .agg parts => uptoBulkAll parts + 1
  | .iface _ d => uptoBulk d + 1
  | .map entries => uptoBulkEntries entries + 1
  | .held _ => 1
def uptoBulkAll {H : Type} : List (DataW H) → Nat
  | [] => 0
  | d :: r => uptoBulk d + uptoBulkAll r
def uptoBulkEntries {H : Type} : List (Lit × DataW H) → Nat
  | [] => 0
  | x :: r => uptoBulkEntry x + uptoBulkEntries r
def uptoBulkEntry {H : Type} : Lit × DataW H → Nat
  | (.string bytes, d) => bytes.length + uptoBulk d + 1
  | (_, d) => uptoBulk d + 1
 end
def uptoSmall : (H : Type) → List (DataW H) → Bool := fun _ ds => decide (uptoBulkAll ds ≤ 1048576)
def OpenSpec.upto (s : _root_.Go.ChangeSpec) : _root_.Go.OpenSpec := { _root_.Go.OpenSpec.ofChange s with cond := some uptoSmall }

/-- 'sutlerlaw08.ObjectChecks', WHERE WHAT IT READS IS OF BULK AT MOST 1048576: true; the input reads as it did. -/
def objectChecksUptoRow : OpenClaim := { program := "ytococcgeoknmjaagreatdoor", sum := "42dad620c00b2f419c7b1af0ded2706d5d595d060ad1e6d81f404f98dce16fef", func := "sutler/sutlerlaw08.ObjectChecks", spec := "objectChecks", inPlace := ["internal/bytealg.abigen_runtime_cmpstring", "internal/abi.NoEscape", "internal/bytealg.MakeNoZero"], unfollowed := true, recurses := true, named := ["strconv.ErrSyntax", "strconv.ErrRange", "internal/strconv.uint64pow10", "math/bits.deBruijn32tab", "math/bits.deBruijn64tab"], apart := false, laid := [("math/bits.deBruijn32tab", laid_math_bits_deBruijn32tab), ("math/bits.deBruijn64tab", laid_math_bits_deBruijn64tab), ("internal/strconv.uint64pow10", laid_internal_strconv_uint64pow10), ("strconv.ErrRange", laid_strconv_ErrRange), ("strconv.ErrSyntax", laid_strconv_ErrSyntax)], narrowed := true }
def ObjectChecksUptoSaid : Prop := objectChecksUptoRow.holds Tryz.pinned (OpenSpec.upto objectChecksSpec)

/-- 'sutlerlaw08.ObjectLess', WHERE WHAT IT READS IS OF BULK AT MOST 1048576: true; the input reads as it did. -/
def objectLessUptoRow : OpenClaim := { program := "ytococcgeoknmjaagreatdoor", sum := "42dad620c00b2f419c7b1af0ded2706d5d595d060ad1e6d81f404f98dce16fef", func := "sutler/sutlerlaw08.ObjectLess", spec := "objectLess", inPlace := ["internal/bytealg.abigen_runtime_cmpstring", "internal/abi.NoEscape", "internal/bytealg.MakeNoZero"], unfollowed := true, recurses := true, named := ["strconv.ErrSyntax", "strconv.ErrRange", "internal/strconv.uint64pow10", "math/bits.deBruijn32tab", "math/bits.deBruijn64tab"], apart := false, laid := [("math/bits.deBruijn32tab", laid_math_bits_deBruijn32tab), ("math/bits.deBruijn64tab", laid_math_bits_deBruijn64tab), ("internal/strconv.uint64pow10", laid_internal_strconv_uint64pow10), ("strconv.ErrRange", laid_strconv_ErrRange), ("strconv.ErrSyntax", laid_strconv_ErrSyntax)], narrowed := true }
def ObjectLessUptoSaid : Prop := objectLessUptoRow.holds Tryz.pinned (OpenSpec.upto objectLessSpec)

/-- 'sutlerlaw08.ObjectNodes', WHERE WHAT IT READS IS OF BULK AT MOST 1048576: true; the input reads as it did. -/
def objectNodesUptoRow : OpenClaim := { program := "ytococcgeoknmjaagreatdoor", sum := "42dad620c00b2f419c7b1af0ded2706d5d595d060ad1e6d81f404f98dce16fef", func := "sutler/sutlerlaw08.ObjectNodes", spec := "objectNodes", inPlace := ["internal/bytealg.abigen_runtime_cmpstring", "internal/abi.NoEscape", "internal/bytealg.MakeNoZero"], unfollowed := true, recurses := true, named := ["strconv.ErrSyntax", "strconv.ErrRange", "internal/strconv.uint64pow10", "math/bits.deBruijn32tab", "math/bits.deBruijn64tab"], apart := false, laid := [("math/bits.deBruijn32tab", laid_math_bits_deBruijn32tab), ("math/bits.deBruijn64tab", laid_math_bits_deBruijn64tab), ("internal/strconv.uint64pow10", laid_internal_strconv_uint64pow10), ("strconv.ErrRange", laid_strconv_ErrRange), ("strconv.ErrSyntax", laid_strconv_ErrSyntax)], narrowed := true }
def ObjectNodesUptoSaid : Prop := objectNodesUptoRow.holds Tryz.pinned (OpenSpec.upto objectNodesSpec)

/-- 'sutlerlaw09.CodecWrites', WHERE WHAT IT READS IS OF BULK AT MOST 1048576: true; the input reads as it did. -/
def codecWritesUptoRow : OpenClaim := { program := "ytococcgeoknmjaagreatdoor", sum := "42dad620c00b2f419c7b1af0ded2706d5d595d060ad1e6d81f404f98dce16fef", func := "sutler/sutlerlaw09.CodecWrites", spec := "codecWrites", inPlace := ["internal/bytealg.abigen_runtime_cmpstring"], unfollowed := true, recurses := true, named := ["strconv.ErrSyntax", "strconv.ErrRange", "internal/strconv.uint64pow10", "math/bits.deBruijn32tab", "math/bits.deBruijn64tab"], apart := false, laid := [("math/bits.deBruijn32tab", laid_math_bits_deBruijn32tab), ("math/bits.deBruijn64tab", laid_math_bits_deBruijn64tab), ("internal/strconv.uint64pow10", laid_internal_strconv_uint64pow10), ("strconv.ErrRange", laid_strconv_ErrRange), ("strconv.ErrSyntax", laid_strconv_ErrSyntax)], narrowed := true }
def CodecWritesUptoSaid : Prop := codecWritesUptoRow.holds Tryz.pinned (OpenSpec.upto codecWritesSpec)

/-- 'sutlerlaw09.CodecReads', WHERE WHAT IT READS IS OF BULK AT MOST 1048576: true; the input reads as it did. -/
def codecReadsUptoRow : OpenClaim := { program := "ytococcgeoknmjaagreatdoor", sum := "42dad620c00b2f419c7b1af0ded2706d5d595d060ad1e6d81f404f98dce16fef", func := "sutler/sutlerlaw09.CodecReads", spec := "codecReads", inPlace := ["internal/bytealg.abigen_runtime_cmpstring"], unfollowed := true, recurses := true, named := ["strconv.ErrSyntax", "strconv.ErrRange", "internal/strconv.uint64pow10", "math/bits.deBruijn32tab", "math/bits.deBruijn64tab"], apart := false, laid := [("math/bits.deBruijn32tab", laid_math_bits_deBruijn32tab), ("math/bits.deBruijn64tab", laid_math_bits_deBruijn64tab), ("internal/strconv.uint64pow10", laid_internal_strconv_uint64pow10), ("strconv.ErrRange", laid_strconv_ErrRange), ("strconv.ErrSyntax", laid_strconv_ErrSyntax)], narrowed := true }
def CodecReadsUptoSaid : Prop := codecReadsUptoRow.holds Tryz.pinned (OpenSpec.upto codecReadsSpec)

/-- 'sutlerlaw09.CodecBack', WHERE WHAT IT READS IS OF BULK AT MOST 1048576: true; the input reads as it did. -/
def codecBackUptoRow : OpenClaim := { program := "ytococcgeoknmjaagreatdoor", sum := "42dad620c00b2f419c7b1af0ded2706d5d595d060ad1e6d81f404f98dce16fef", func := "sutler/sutlerlaw09.CodecBack", spec := "codecBack", inPlace := ["internal/bytealg.abigen_runtime_cmpstring"], unfollowed := true, recurses := true, named := ["strconv.ErrSyntax", "strconv.ErrRange", "internal/strconv.uint64pow10", "math/bits.deBruijn32tab", "math/bits.deBruijn64tab"], apart := false, laid := [("math/bits.deBruijn32tab", laid_math_bits_deBruijn32tab), ("math/bits.deBruijn64tab", laid_math_bits_deBruijn64tab), ("internal/strconv.uint64pow10", laid_internal_strconv_uint64pow10), ("strconv.ErrRange", laid_strconv_ErrRange), ("strconv.ErrSyntax", laid_strconv_ErrSyntax)], narrowed := true }
def CodecBackUptoSaid : Prop := codecBackUptoRow.holds Tryz.pinned (OpenSpec.upto codecBackSpec)

/-- 'sutlerlaw09.CodecUnlike', WHERE WHAT IT READS IS OF BULK AT MOST 1048576: true; the input reads as it did. -/
def codecUnlikeUptoRow : OpenClaim := { program := "ytococcgeoknmjaagreatdoor", sum := "42dad620c00b2f419c7b1af0ded2706d5d595d060ad1e6d81f404f98dce16fef", func := "sutler/sutlerlaw09.CodecUnlike", spec := "codecUnlike", inPlace := ["internal/bytealg.abigen_runtime_cmpstring"], unfollowed := true, recurses := true, named := ["strconv.ErrSyntax", "strconv.ErrRange", "internal/strconv.uint64pow10", "math/bits.deBruijn32tab", "math/bits.deBruijn64tab"], apart := false, laid := [("math/bits.deBruijn32tab", laid_math_bits_deBruijn32tab), ("math/bits.deBruijn64tab", laid_math_bits_deBruijn64tab), ("internal/strconv.uint64pow10", laid_internal_strconv_uint64pow10), ("strconv.ErrRange", laid_strconv_ErrRange), ("strconv.ErrSyntax", laid_strconv_ErrSyntax)], narrowed := true }
def CodecUnlikeUptoSaid : Prop := codecUnlikeUptoRow.holds Tryz.pinned (OpenSpec.upto codecUnlikeSpec)

/-- 'sutlerlaw04.ReqsNumbers', WHERE WHAT IT READS IS OF BULK AT MOST 1048576: true; the input reads as it did. -/
def reqsNumbersUptoRow : OpenClaim := { program := "ytococcgeoknmjaagreatdoor", sum := "42dad620c00b2f419c7b1af0ded2706d5d595d060ad1e6d81f404f98dce16fef", func := "sutler/sutlerlaw04.ReqsNumbers", spec := "reqsNumbers", inPlace := ["internal/bytealg.abigen_runtime_cmpstring"], unfollowed := true, recurses := true, named := ["strconv.ErrSyntax", "strconv.ErrRange", "internal/strconv.uint64pow10", "math/bits.deBruijn32tab", "math/bits.deBruijn64tab"], apart := false, laid := [("math/bits.deBruijn32tab", laid_math_bits_deBruijn32tab), ("math/bits.deBruijn64tab", laid_math_bits_deBruijn64tab), ("internal/strconv.uint64pow10", laid_internal_strconv_uint64pow10), ("strconv.ErrRange", laid_strconv_ErrRange), ("strconv.ErrSyntax", laid_strconv_ErrSyntax)], narrowed := true }
def ReqsNumbersUptoSaid : Prop := reqsNumbersUptoRow.holds Tryz.pinned (OpenSpec.upto reqsNumbersSpec)

/-- 'sutlerlaw04.ReqsSets', WHERE WHAT IT READS IS OF BULK AT MOST 1048576: true; the input reads as it did. -/
def reqsSetsUptoRow : OpenClaim := { program := "ytococcgeoknmjaagreatdoor", sum := "42dad620c00b2f419c7b1af0ded2706d5d595d060ad1e6d81f404f98dce16fef", func := "sutler/sutlerlaw04.ReqsSets", spec := "reqsSets", inPlace := ["internal/bytealg.abigen_runtime_cmpstring"], unfollowed := true, recurses := true, named := ["strconv.ErrSyntax", "strconv.ErrRange", "internal/strconv.uint64pow10", "math/bits.deBruijn32tab", "math/bits.deBruijn64tab"], apart := false, laid := [("math/bits.deBruijn32tab", laid_math_bits_deBruijn32tab), ("math/bits.deBruijn64tab", laid_math_bits_deBruijn64tab), ("internal/strconv.uint64pow10", laid_internal_strconv_uint64pow10), ("strconv.ErrRange", laid_strconv_ErrRange), ("strconv.ErrSyntax", laid_strconv_ErrSyntax)], narrowed := true }
def ReqsSetsUptoSaid : Prop := reqsSetsUptoRow.holds Tryz.pinned (OpenSpec.upto reqsSetsSpec)

/-- 'sutlerlaw04.ReqsAdmits', WHERE WHAT IT READS IS OF BULK AT MOST 1048576: true; the input reads as it did. -/
def reqsAdmitsUptoRow : OpenClaim := { program := "ytococcgeoknmjaagreatdoor", sum := "42dad620c00b2f419c7b1af0ded2706d5d595d060ad1e6d81f404f98dce16fef", func := "sutler/sutlerlaw04.ReqsAdmits", spec := "reqsAdmits", inPlace := ["internal/bytealg.abigen_runtime_cmpstring"], unfollowed := true, recurses := true, named := ["strconv.ErrSyntax", "strconv.ErrRange", "internal/strconv.uint64pow10", "math/bits.deBruijn32tab", "math/bits.deBruijn64tab"], apart := false, laid := [("math/bits.deBruijn32tab", laid_math_bits_deBruijn32tab), ("math/bits.deBruijn64tab", laid_math_bits_deBruijn64tab), ("internal/strconv.uint64pow10", laid_internal_strconv_uint64pow10), ("strconv.ErrRange", laid_strconv_ErrRange), ("strconv.ErrSyntax", laid_strconv_ErrSyntax)], narrowed := true }
def ReqsAdmitsUptoSaid : Prop := reqsAdmitsUptoRow.holds Tryz.pinned (OpenSpec.upto reqsAdmitsSpec)

/-- 'sutlerlaw04.ReqsCan', WHERE WHAT IT READS IS OF BULK AT MOST 1048576: true; the input reads as it did. -/
def reqsCanUptoRow : OpenClaim := { program := "ytococcgeoknmjaagreatdoor", sum := "42dad620c00b2f419c7b1af0ded2706d5d595d060ad1e6d81f404f98dce16fef", func := "sutler/sutlerlaw04.ReqsCan", spec := "reqsCan", inPlace := ["internal/bytealg.abigen_runtime_cmpstring"], unfollowed := true, recurses := true, named := ["strconv.ErrSyntax", "strconv.ErrRange", "internal/strconv.uint64pow10", "math/bits.deBruijn32tab", "math/bits.deBruijn64tab"], apart := false, laid := [("math/bits.deBruijn32tab", laid_math_bits_deBruijn32tab), ("math/bits.deBruijn64tab", laid_math_bits_deBruijn64tab), ("internal/strconv.uint64pow10", laid_internal_strconv_uint64pow10), ("strconv.ErrRange", laid_strconv_ErrRange), ("strconv.ErrSyntax", laid_strconv_ErrSyntax)], narrowed := true }
def ReqsCanUptoSaid : Prop := reqsCanUptoRow.holds Tryz.pinned (OpenSpec.upto reqsCanSpec)

/-- 'sutlerlaw04.ReqsMet', WHERE WHAT IT READS IS OF BULK AT MOST 1048576: true; the input reads as it did. -/
def reqsMetUptoRow : OpenClaim := { program := "ytococcgeoknmjaagreatdoor", sum := "42dad620c00b2f419c7b1af0ded2706d5d595d060ad1e6d81f404f98dce16fef", func := "sutler/sutlerlaw04.ReqsMet", spec := "reqsMet", inPlace := ["internal/bytealg.abigen_runtime_cmpstring"], unfollowed := true, recurses := true, named := ["strconv.ErrSyntax", "strconv.ErrRange", "internal/strconv.uint64pow10", "math/bits.deBruijn32tab", "math/bits.deBruijn64tab"], apart := false, laid := [("math/bits.deBruijn32tab", laid_math_bits_deBruijn32tab), ("math/bits.deBruijn64tab", laid_math_bits_deBruijn64tab), ("internal/strconv.uint64pow10", laid_internal_strconv_uint64pow10), ("strconv.ErrRange", laid_strconv_ErrRange), ("strconv.ErrSyntax", laid_strconv_ErrSyntax)], narrowed := true }
def ReqsMetUptoSaid : Prop := reqsMetUptoRow.holds Tryz.pinned (OpenSpec.upto reqsMetSpec)

end Rows
end Go.Proofs.YtococcgeoknmjaaGreatDoor
