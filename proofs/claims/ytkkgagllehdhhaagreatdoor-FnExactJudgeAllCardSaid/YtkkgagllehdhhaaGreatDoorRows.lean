/-
  NARROWER THAN 'FOR EVERY INPUT', by the rows' own cells (each row's printed sentence says how): FnExactTree: laid · FnExactRepText: laid · FnExactWorldText: laid · FnExactRoomOk: laid · FnExactJudgeVotes: laid · FnExactTop: laid · FnExactJudgeOne: laid · FnExactJudgeCerts: laid · FnExactJudgeKept: laid · FnExactJudgePaid: laid · FnExactJudgeAll: laid.
  DERIVED. THE GIVEN ROWS OF THIS SEAT. 11 by the template 'for every input the law returns true; each argument reads behind the call as it read before'; 0 by the template 'total and deterministic' (their statements: YtkkgagllehdhhaaGreatDoorTotals.lean).
  GIVEN WITH THE SEED: the statements are not yours to turn. If you find one false, say at which input.
  Laid BY PROGRAM, IN A SANDBOX (cutbox-rows.mjs): the forced cells as the released guide's own fill.sh prints them over the translation 079abdb2fc2fc423… (all of the seat's roots in one cut). By AI agents, Wed Nov 11 2026. No macro, syntax, notation, axiom, sorry.
-/
import Derived.Test.YtkkgagllehdhhaaGreatDoorChecked
import GoSem.PinnedTables
import GoSem.Claim
import GoSem.ClaimJoined
import GoSem.ClaimMapViews
import Derived.JoinedTies
import Derived.KernelRfl
namespace Go.Proofs.YtkkgagllehdhhaaGreatDoor
/- THE CELL 'sum', in the pinned program and in every row, IS THE sha256 OF THE DUMP (.gsa) THAT YtkkgagllehdhhaaGreatDoorProg.lean LOADS. Nothing in Lean hashes anything: it is a label: what it is worth is what the hold of that sum in a sandbox is worth. -/
noncomputable def Tryz.pinned : Pinned := { name := "ytkkgagllehdhhaagreatdoor", sum := "079abdb2fc2fc42356516f406c06347aba991a0975567b6ed04fd6fe3699be13", checked := Tryz.checked }
namespace Rows
def none {H : Type} : Left H := { results := [], args := [] }

/- WHAT THE LISTED PACKAGE-LEVEL VARIABLES READ AS WHEN THE CALL BEGINS. Each datum BY PROGRAM (the guide's laid-datum.mjs) off the statement by which the dump's own 'gosem.cut.vars' lays the variable. In a bare row this is a premise. The card (YtkkgagllehdhhaaGreatDoorCards.lean) ties it to the program's text. -/
def laid_math_bits_deBruijn32tab {H : Type} : DataW H := .agg [.lit (.int .u8 0), .lit (.int .u8 1), .lit (.int .u8 28), .lit (.int .u8 2), .lit (.int .u8 29), .lit (.int .u8 14), .lit (.int .u8 24), .lit (.int .u8 3), .lit (.int .u8 30), .lit (.int .u8 22), .lit (.int .u8 20), .lit (.int .u8 15), .lit (.int .u8 25), .lit (.int .u8 17), .lit (.int .u8 4), .lit (.int .u8 8), .lit (.int .u8 31), .lit (.int .u8 27), .lit (.int .u8 13), .lit (.int .u8 23), .lit (.int .u8 21), .lit (.int .u8 19), .lit (.int .u8 16), .lit (.int .u8 7), .lit (.int .u8 26), .lit (.int .u8 12), .lit (.int .u8 18), .lit (.int .u8 6), .lit (.int .u8 11), .lit (.int .u8 5), .lit (.int .u8 10), .lit (.int .u8 9)]
def laid_math_bits_deBruijn64tab {H : Type} : DataW H := .agg [.lit (.int .u8 0), .lit (.int .u8 1), .lit (.int .u8 56), .lit (.int .u8 2), .lit (.int .u8 57), .lit (.int .u8 49), .lit (.int .u8 28), .lit (.int .u8 3), .lit (.int .u8 61), .lit (.int .u8 58), .lit (.int .u8 42), .lit (.int .u8 50), .lit (.int .u8 38), .lit (.int .u8 29), .lit (.int .u8 17), .lit (.int .u8 4), .lit (.int .u8 62), .lit (.int .u8 47), .lit (.int .u8 59), .lit (.int .u8 36), .lit (.int .u8 45), .lit (.int .u8 43), .lit (.int .u8 51), .lit (.int .u8 22), .lit (.int .u8 53), .lit (.int .u8 39), .lit (.int .u8 33), .lit (.int .u8 30), .lit (.int .u8 24), .lit (.int .u8 18), .lit (.int .u8 12), .lit (.int .u8 5), .lit (.int .u8 63), .lit (.int .u8 55), .lit (.int .u8 48), .lit (.int .u8 27), .lit (.int .u8 60), .lit (.int .u8 41), .lit (.int .u8 37), .lit (.int .u8 16), .lit (.int .u8 46), .lit (.int .u8 35), .lit (.int .u8 44), .lit (.int .u8 21), .lit (.int .u8 52), .lit (.int .u8 32), .lit (.int .u8 23), .lit (.int .u8 11), .lit (.int .u8 54), .lit (.int .u8 26), .lit (.int .u8 40), .lit (.int .u8 15), .lit (.int .u8 34), .lit (.int .u8 20), .lit (.int .u8 31), .lit (.int .u8 10), .lit (.int .u8 25), .lit (.int .u8 14), .lit (.int .u8 19), .lit (.int .u8 9), .lit (.int .u8 13), .lit (.int .u8 8), .lit (.int .u8 7), .lit (.int .u8 6)]
def laid_internal_strconv_uint64pow10 {H : Type} : DataW H := .agg [.lit (.int .u64 1), .lit (.int .u64 10), .lit (.int .u64 100), .lit (.int .u64 1000), .lit (.int .u64 10000), .lit (.int .u64 100000), .lit (.int .u64 1000000), .lit (.int .u64 10000000), .lit (.int .u64 100000000), .lit (.int .u64 1000000000), .lit (.int .u64 10000000000), .lit (.int .u64 100000000000), .lit (.int .u64 1000000000000), .lit (.int .u64 10000000000000), .lit (.int .u64 100000000000000), .lit (.int .u64 1000000000000000), .lit (.int .u64 10000000000000000), .lit (.int .u64 100000000000000000), .lit (.int .u64 1000000000000000000), .lit (.int .u64 10000000000000000000)]
def laid_unicode_utf8_acceptRanges {H : Type} : DataW H := .agg [.agg [.lit (.int .u8 128), .lit (.int .u8 191)], .agg [.lit (.int .u8 160), .lit (.int .u8 191)], .agg [.lit (.int .u8 128), .lit (.int .u8 159)], .agg [.lit (.int .u8 144), .lit (.int .u8 191)], .agg [.lit (.int .u8 128), .lit (.int .u8 143)], .agg [.lit (.int .u8 0), .lit (.int .u8 0)], .agg [.lit (.int .u8 0), .lit (.int .u8 0)], .agg [.lit (.int .u8 0), .lit (.int .u8 0)], .agg [.lit (.int .u8 0), .lit (.int .u8 0)], .agg [.lit (.int .u8 0), .lit (.int .u8 0)], .agg [.lit (.int .u8 0), .lit (.int .u8 0)], .agg [.lit (.int .u8 0), .lit (.int .u8 0)], .agg [.lit (.int .u8 0), .lit (.int .u8 0)], .agg [.lit (.int .u8 0), .lit (.int .u8 0)], .agg [.lit (.int .u8 0), .lit (.int .u8 0)], .agg [.lit (.int .u8 0), .lit (.int .u8 0)]]
/-- One of Go's own tables, pinned by name: the form's constant. -/
def laid_unicode_utf8_first : DataW Unit := Go.Pinned.utf8First

/-- 'laws.FnExactTree': WHATEVER THE INPUT: true; the input reads as it did. -/
def fnExactTreeSpec : ChangeSpec := { name := "fnExactTree", fn := fun _ => fun
  | [d1, d2, d3, d4] => { results := [.lit (.bool true)], args := [d1, d2, d3, d4] }
  | _ => none }
def fnExactTreeRow : OpenClaim := { program := "ytkkgagllehdhhaagreatdoor", sum := "079abdb2fc2fc42356516f406c06347aba991a0975567b6ed04fd6fe3699be13", func := "loop.example/g00448/laws.FnExactTree", spec := "fnExactTree", inPlace := ["slices.overlaps[int]", "internal/bytealg.CountString", "internal/bytealg.IndexByteString", "internal/bytealg.IndexString"], unfollowed := true, recurses := true, named := ["unicode/utf8.first", "unicode/utf8.acceptRanges", "internal/bytealg.MaxLen", "internal/strconv.uint64pow10", "math/bits.deBruijn32tab", "math/bits.deBruijn64tab"], apart := false, laid := [("math/bits.deBruijn32tab", laid_math_bits_deBruijn32tab), ("math/bits.deBruijn64tab", laid_math_bits_deBruijn64tab), ("internal/strconv.uint64pow10", laid_internal_strconv_uint64pow10), ("unicode/utf8.acceptRanges", laid_unicode_utf8_acceptRanges), ("unicode/utf8.first", laid_unicode_utf8_first)] }
def FnExactTreeSaid : Prop := fnExactTreeRow.holds Tryz.pinned (OpenSpec.ofChange fnExactTreeSpec)

/-- ITS FALSE NEIGHBOUR: 'it returns false'. Refute it at one input. -/
def fnExactTreeWrong : ChangeSpec := { name := "fnExactTree", fn := fun _ => fun
  | [d1, d2, d3, d4] => { results := [.lit (.bool false)], args := [d1, d2, d3, d4] }
  | _ => none }
def FnExactTreeWrongFalsely : Prop := fnExactTreeRow.holds Tryz.pinned (OpenSpec.ofChange fnExactTreeWrong)

/-- 'laws.FnExactRepText': WHATEVER THE INPUT: true; the input reads as it did. -/
def fnExactRepTextSpec : ChangeSpec := { name := "fnExactRepText", fn := fun _ => fun
  | [d] => { results := [.lit (.bool true)], args := [d] }
  | _ => none }
def fnExactRepTextRow : OpenClaim := { program := "ytkkgagllehdhhaagreatdoor", sum := "079abdb2fc2fc42356516f406c06347aba991a0975567b6ed04fd6fe3699be13", func := "loop.example/g00448/laws.FnExactRepText", spec := "fnExactRepText", inPlace := ["internal/bytealg.CountString", "internal/bytealg.IndexByteString", "internal/bytealg.IndexString", "internal/abi.NoEscape", "internal/bytealg.MakeNoZero"], named := ["unicode/utf8.first", "unicode/utf8.acceptRanges", "internal/bytealg.MaxLen", "internal/strconv.uint64pow10", "math/bits.deBruijn32tab", "math/bits.deBruijn64tab"], apart := false, laid := [("math/bits.deBruijn32tab", laid_math_bits_deBruijn32tab), ("math/bits.deBruijn64tab", laid_math_bits_deBruijn64tab), ("internal/strconv.uint64pow10", laid_internal_strconv_uint64pow10), ("unicode/utf8.acceptRanges", laid_unicode_utf8_acceptRanges), ("unicode/utf8.first", laid_unicode_utf8_first)] }
def FnExactRepTextSaid : Prop := fnExactRepTextRow.holds Tryz.pinned (OpenSpec.ofChange fnExactRepTextSpec)

/-- ITS FALSE NEIGHBOUR: 'it returns false'. Refute it at one input. -/
def fnExactRepTextWrong : ChangeSpec := { name := "fnExactRepText", fn := fun _ => fun
  | [d] => { results := [.lit (.bool false)], args := [d] }
  | _ => none }
def FnExactRepTextWrongFalsely : Prop := fnExactRepTextRow.holds Tryz.pinned (OpenSpec.ofChange fnExactRepTextWrong)

/-- 'laws.FnExactWorldText': WHATEVER THE INPUT: true; the input reads as it did. -/
def fnExactWorldTextSpec : ChangeSpec := { name := "fnExactWorldText", fn := fun _ => fun
  | [d] => { results := [.lit (.bool true)], args := [d] }
  | _ => none }
def fnExactWorldTextRow : OpenClaim := { program := "ytkkgagllehdhhaagreatdoor", sum := "079abdb2fc2fc42356516f406c06347aba991a0975567b6ed04fd6fe3699be13", func := "loop.example/g00448/laws.FnExactWorldText", spec := "fnExactWorldText", inPlace := ["internal/bytealg.CountString", "internal/bytealg.IndexByteString", "internal/bytealg.IndexString", "internal/abi.NoEscape", "internal/bytealg.MakeNoZero"], named := ["unicode/utf8.first", "unicode/utf8.acceptRanges", "internal/bytealg.MaxLen", "internal/strconv.uint64pow10", "math/bits.deBruijn32tab", "math/bits.deBruijn64tab"], apart := false, laid := [("math/bits.deBruijn32tab", laid_math_bits_deBruijn32tab), ("math/bits.deBruijn64tab", laid_math_bits_deBruijn64tab), ("internal/strconv.uint64pow10", laid_internal_strconv_uint64pow10), ("unicode/utf8.acceptRanges", laid_unicode_utf8_acceptRanges), ("unicode/utf8.first", laid_unicode_utf8_first)] }
def FnExactWorldTextSaid : Prop := fnExactWorldTextRow.holds Tryz.pinned (OpenSpec.ofChange fnExactWorldTextSpec)

/-- ITS FALSE NEIGHBOUR: 'it returns false'. Refute it at one input. -/
def fnExactWorldTextWrong : ChangeSpec := { name := "fnExactWorldText", fn := fun _ => fun
  | [d] => { results := [.lit (.bool false)], args := [d] }
  | _ => none }
def FnExactWorldTextWrongFalsely : Prop := fnExactWorldTextRow.holds Tryz.pinned (OpenSpec.ofChange fnExactWorldTextWrong)

/-- 'laws.FnExactRoomOk': WHATEVER THE INPUT: true; the input reads as it did. -/
def fnExactRoomOkSpec : ChangeSpec := { name := "fnExactRoomOk", fn := fun _ => fun
  | [d] => { results := [.lit (.bool true)], args := [d] }
  | _ => none }
def fnExactRoomOkRow : OpenClaim := { program := "ytkkgagllehdhhaagreatdoor", sum := "079abdb2fc2fc42356516f406c06347aba991a0975567b6ed04fd6fe3699be13", func := "loop.example/g00448/laws.FnExactRoomOk", spec := "fnExactRoomOk", inPlace := ["internal/bytealg.CountString", "internal/bytealg.IndexByteString", "internal/bytealg.IndexString"], named := ["unicode/utf8.first", "unicode/utf8.acceptRanges", "internal/bytealg.MaxLen", "internal/strconv.uint64pow10", "math/bits.deBruijn32tab", "math/bits.deBruijn64tab"], apart := false, laid := [("math/bits.deBruijn32tab", laid_math_bits_deBruijn32tab), ("math/bits.deBruijn64tab", laid_math_bits_deBruijn64tab), ("internal/strconv.uint64pow10", laid_internal_strconv_uint64pow10), ("unicode/utf8.acceptRanges", laid_unicode_utf8_acceptRanges), ("unicode/utf8.first", laid_unicode_utf8_first)] }
def FnExactRoomOkSaid : Prop := fnExactRoomOkRow.holds Tryz.pinned (OpenSpec.ofChange fnExactRoomOkSpec)

/-- ITS FALSE NEIGHBOUR: 'it returns false'. Refute it at one input. -/
def fnExactRoomOkWrong : ChangeSpec := { name := "fnExactRoomOk", fn := fun _ => fun
  | [d] => { results := [.lit (.bool false)], args := [d] }
  | _ => none }
def FnExactRoomOkWrongFalsely : Prop := fnExactRoomOkRow.holds Tryz.pinned (OpenSpec.ofChange fnExactRoomOkWrong)

/-- 'laws.FnExactJudgeVotes': WHATEVER THE INPUT: true; the input reads as it did. -/
def fnExactJudgeVotesSpec : ChangeSpec := { name := "fnExactJudgeVotes", fn := fun _ => fun
  | [d] => { results := [.lit (.bool true)], args := [d] }
  | _ => none }
def fnExactJudgeVotesRow : OpenClaim := { program := "ytkkgagllehdhhaagreatdoor", sum := "079abdb2fc2fc42356516f406c06347aba991a0975567b6ed04fd6fe3699be13", func := "loop.example/g00448/laws.FnExactJudgeVotes", spec := "fnExactJudgeVotes", inPlace := ["internal/bytealg.CountString", "internal/bytealg.IndexByteString", "internal/bytealg.IndexString"], named := ["unicode/utf8.first", "unicode/utf8.acceptRanges", "internal/bytealg.MaxLen", "internal/strconv.uint64pow10", "math/bits.deBruijn32tab", "math/bits.deBruijn64tab"], apart := false, laid := [("math/bits.deBruijn32tab", laid_math_bits_deBruijn32tab), ("math/bits.deBruijn64tab", laid_math_bits_deBruijn64tab), ("internal/strconv.uint64pow10", laid_internal_strconv_uint64pow10), ("unicode/utf8.acceptRanges", laid_unicode_utf8_acceptRanges), ("unicode/utf8.first", laid_unicode_utf8_first)] }
def FnExactJudgeVotesSaid : Prop := fnExactJudgeVotesRow.holds Tryz.pinned (OpenSpec.ofChange fnExactJudgeVotesSpec)

/-- ITS FALSE NEIGHBOUR: 'it returns false'. Refute it at one input. -/
def fnExactJudgeVotesWrong : ChangeSpec := { name := "fnExactJudgeVotes", fn := fun _ => fun
  | [d] => { results := [.lit (.bool false)], args := [d] }
  | _ => none }
def FnExactJudgeVotesWrongFalsely : Prop := fnExactJudgeVotesRow.holds Tryz.pinned (OpenSpec.ofChange fnExactJudgeVotesWrong)

/-- 'laws.FnExactTop': WHATEVER THE INPUT: true; the input reads as it did. -/
def fnExactTopSpec : ChangeSpec := { name := "fnExactTop", fn := fun _ => fun
  | [d] => { results := [.lit (.bool true)], args := [d] }
  | _ => none }
def fnExactTopRow : OpenClaim := { program := "ytkkgagllehdhhaagreatdoor", sum := "079abdb2fc2fc42356516f406c06347aba991a0975567b6ed04fd6fe3699be13", func := "loop.example/g00448/laws.FnExactTop", spec := "fnExactTop", inPlace := ["internal/bytealg.CountString", "internal/bytealg.IndexByteString", "internal/bytealg.IndexString"], named := ["unicode/utf8.first", "unicode/utf8.acceptRanges", "internal/bytealg.MaxLen", "internal/strconv.uint64pow10", "math/bits.deBruijn32tab", "math/bits.deBruijn64tab"], apart := false, laid := [("math/bits.deBruijn32tab", laid_math_bits_deBruijn32tab), ("math/bits.deBruijn64tab", laid_math_bits_deBruijn64tab), ("internal/strconv.uint64pow10", laid_internal_strconv_uint64pow10), ("unicode/utf8.acceptRanges", laid_unicode_utf8_acceptRanges), ("unicode/utf8.first", laid_unicode_utf8_first)] }
def FnExactTopSaid : Prop := fnExactTopRow.holds Tryz.pinned (OpenSpec.ofChange fnExactTopSpec)

/-- ITS FALSE NEIGHBOUR: 'it returns false'. Refute it at one input. -/
def fnExactTopWrong : ChangeSpec := { name := "fnExactTop", fn := fun _ => fun
  | [d] => { results := [.lit (.bool false)], args := [d] }
  | _ => none }
def FnExactTopWrongFalsely : Prop := fnExactTopRow.holds Tryz.pinned (OpenSpec.ofChange fnExactTopWrong)

/-- 'laws.FnExactJudgeOne': WHATEVER THE INPUT: true; the input reads as it did. -/
def fnExactJudgeOneSpec : ChangeSpec := { name := "fnExactJudgeOne", fn := fun _ => fun
  | [d] => { results := [.lit (.bool true)], args := [d] }
  | _ => none }
def fnExactJudgeOneRow : OpenClaim := { program := "ytkkgagllehdhhaagreatdoor", sum := "079abdb2fc2fc42356516f406c06347aba991a0975567b6ed04fd6fe3699be13", func := "loop.example/g00448/laws.FnExactJudgeOne", spec := "fnExactJudgeOne", inPlace := ["internal/bytealg.CountString", "internal/bytealg.IndexByteString", "internal/bytealg.IndexString"], named := ["unicode/utf8.first", "unicode/utf8.acceptRanges", "internal/bytealg.MaxLen", "internal/strconv.uint64pow10", "math/bits.deBruijn32tab", "math/bits.deBruijn64tab"], apart := false, laid := [("math/bits.deBruijn32tab", laid_math_bits_deBruijn32tab), ("math/bits.deBruijn64tab", laid_math_bits_deBruijn64tab), ("internal/strconv.uint64pow10", laid_internal_strconv_uint64pow10), ("unicode/utf8.acceptRanges", laid_unicode_utf8_acceptRanges), ("unicode/utf8.first", laid_unicode_utf8_first)] }
def FnExactJudgeOneSaid : Prop := fnExactJudgeOneRow.holds Tryz.pinned (OpenSpec.ofChange fnExactJudgeOneSpec)

/-- ITS FALSE NEIGHBOUR: 'it returns false'. Refute it at one input. -/
def fnExactJudgeOneWrong : ChangeSpec := { name := "fnExactJudgeOne", fn := fun _ => fun
  | [d] => { results := [.lit (.bool false)], args := [d] }
  | _ => none }
def FnExactJudgeOneWrongFalsely : Prop := fnExactJudgeOneRow.holds Tryz.pinned (OpenSpec.ofChange fnExactJudgeOneWrong)

/-- 'laws.FnExactJudgeCerts': WHATEVER THE INPUT: true; the input reads as it did. -/
def fnExactJudgeCertsSpec : ChangeSpec := { name := "fnExactJudgeCerts", fn := fun _ => fun
  | [d] => { results := [.lit (.bool true)], args := [d] }
  | _ => none }
def fnExactJudgeCertsRow : OpenClaim := { program := "ytkkgagllehdhhaagreatdoor", sum := "079abdb2fc2fc42356516f406c06347aba991a0975567b6ed04fd6fe3699be13", func := "loop.example/g00448/laws.FnExactJudgeCerts", spec := "fnExactJudgeCerts", inPlace := ["internal/bytealg.CountString", "internal/bytealg.IndexByteString", "internal/bytealg.IndexString"], named := ["unicode/utf8.first", "unicode/utf8.acceptRanges", "internal/bytealg.MaxLen", "internal/strconv.uint64pow10", "math/bits.deBruijn32tab", "math/bits.deBruijn64tab"], apart := false, laid := [("math/bits.deBruijn32tab", laid_math_bits_deBruijn32tab), ("math/bits.deBruijn64tab", laid_math_bits_deBruijn64tab), ("internal/strconv.uint64pow10", laid_internal_strconv_uint64pow10), ("unicode/utf8.acceptRanges", laid_unicode_utf8_acceptRanges), ("unicode/utf8.first", laid_unicode_utf8_first)] }
def FnExactJudgeCertsSaid : Prop := fnExactJudgeCertsRow.holds Tryz.pinned (OpenSpec.ofChange fnExactJudgeCertsSpec)

/-- ITS FALSE NEIGHBOUR: 'it returns false'. Refute it at one input. -/
def fnExactJudgeCertsWrong : ChangeSpec := { name := "fnExactJudgeCerts", fn := fun _ => fun
  | [d] => { results := [.lit (.bool false)], args := [d] }
  | _ => none }
def FnExactJudgeCertsWrongFalsely : Prop := fnExactJudgeCertsRow.holds Tryz.pinned (OpenSpec.ofChange fnExactJudgeCertsWrong)

/-- 'laws.FnExactJudgeKept': WHATEVER THE INPUT: true; the input reads as it did. -/
def fnExactJudgeKeptSpec : ChangeSpec := { name := "fnExactJudgeKept", fn := fun _ => fun
  | [d] => { results := [.lit (.bool true)], args := [d] }
  | _ => none }
def fnExactJudgeKeptRow : OpenClaim := { program := "ytkkgagllehdhhaagreatdoor", sum := "079abdb2fc2fc42356516f406c06347aba991a0975567b6ed04fd6fe3699be13", func := "loop.example/g00448/laws.FnExactJudgeKept", spec := "fnExactJudgeKept", inPlace := ["internal/bytealg.CountString", "internal/bytealg.IndexByteString", "internal/bytealg.IndexString"], named := ["unicode/utf8.first", "unicode/utf8.acceptRanges", "internal/bytealg.MaxLen", "internal/strconv.uint64pow10", "math/bits.deBruijn32tab", "math/bits.deBruijn64tab"], apart := false, laid := [("math/bits.deBruijn32tab", laid_math_bits_deBruijn32tab), ("math/bits.deBruijn64tab", laid_math_bits_deBruijn64tab), ("internal/strconv.uint64pow10", laid_internal_strconv_uint64pow10), ("unicode/utf8.acceptRanges", laid_unicode_utf8_acceptRanges), ("unicode/utf8.first", laid_unicode_utf8_first)] }
def FnExactJudgeKeptSaid : Prop := fnExactJudgeKeptRow.holds Tryz.pinned (OpenSpec.ofChange fnExactJudgeKeptSpec)

/-- ITS FALSE NEIGHBOUR: 'it returns false'. Refute it at one input. -/
def fnExactJudgeKeptWrong : ChangeSpec := { name := "fnExactJudgeKept", fn := fun _ => fun
  | [d] => { results := [.lit (.bool false)], args := [d] }
  | _ => none }
def FnExactJudgeKeptWrongFalsely : Prop := fnExactJudgeKeptRow.holds Tryz.pinned (OpenSpec.ofChange fnExactJudgeKeptWrong)

/-- 'laws.FnExactJudgePaid': WHATEVER THE INPUT: true; the input reads as it did. -/
def fnExactJudgePaidSpec : ChangeSpec := { name := "fnExactJudgePaid", fn := fun _ => fun
  | [d] => { results := [.lit (.bool true)], args := [d] }
  | _ => none }
def fnExactJudgePaidRow : OpenClaim := { program := "ytkkgagllehdhhaagreatdoor", sum := "079abdb2fc2fc42356516f406c06347aba991a0975567b6ed04fd6fe3699be13", func := "loop.example/g00448/laws.FnExactJudgePaid", spec := "fnExactJudgePaid", inPlace := ["internal/bytealg.CountString", "internal/bytealg.IndexByteString", "internal/bytealg.IndexString"], named := ["unicode/utf8.first", "unicode/utf8.acceptRanges", "internal/bytealg.MaxLen", "internal/strconv.uint64pow10", "math/bits.deBruijn32tab", "math/bits.deBruijn64tab"], apart := false, laid := [("math/bits.deBruijn32tab", laid_math_bits_deBruijn32tab), ("math/bits.deBruijn64tab", laid_math_bits_deBruijn64tab), ("internal/strconv.uint64pow10", laid_internal_strconv_uint64pow10), ("unicode/utf8.acceptRanges", laid_unicode_utf8_acceptRanges), ("unicode/utf8.first", laid_unicode_utf8_first)] }
def FnExactJudgePaidSaid : Prop := fnExactJudgePaidRow.holds Tryz.pinned (OpenSpec.ofChange fnExactJudgePaidSpec)

/-- ITS FALSE NEIGHBOUR: 'it returns false'. Refute it at one input. -/
def fnExactJudgePaidWrong : ChangeSpec := { name := "fnExactJudgePaid", fn := fun _ => fun
  | [d] => { results := [.lit (.bool false)], args := [d] }
  | _ => none }
def FnExactJudgePaidWrongFalsely : Prop := fnExactJudgePaidRow.holds Tryz.pinned (OpenSpec.ofChange fnExactJudgePaidWrong)

/-- 'laws.FnExactJudgeAll': WHATEVER THE INPUT: true; the input reads as it did. -/
def fnExactJudgeAllSpec : ChangeSpec := { name := "fnExactJudgeAll", fn := fun _ => fun
  | [d] => { results := [.lit (.bool true)], args := [d] }
  | _ => none }
def fnExactJudgeAllRow : OpenClaim := { program := "ytkkgagllehdhhaagreatdoor", sum := "079abdb2fc2fc42356516f406c06347aba991a0975567b6ed04fd6fe3699be13", func := "loop.example/g00448/laws.FnExactJudgeAll", spec := "fnExactJudgeAll", inPlace := ["internal/bytealg.CountString", "internal/bytealg.IndexByteString", "internal/bytealg.IndexString"], named := ["unicode/utf8.first", "unicode/utf8.acceptRanges", "internal/bytealg.MaxLen", "internal/strconv.uint64pow10", "math/bits.deBruijn32tab", "math/bits.deBruijn64tab"], apart := false, laid := [("math/bits.deBruijn32tab", laid_math_bits_deBruijn32tab), ("math/bits.deBruijn64tab", laid_math_bits_deBruijn64tab), ("internal/strconv.uint64pow10", laid_internal_strconv_uint64pow10), ("unicode/utf8.acceptRanges", laid_unicode_utf8_acceptRanges), ("unicode/utf8.first", laid_unicode_utf8_first)] }
def FnExactJudgeAllSaid : Prop := fnExactJudgeAllRow.holds Tryz.pinned (OpenSpec.ofChange fnExactJudgeAllSpec)

/-- ITS FALSE NEIGHBOUR: 'it returns false'. Refute it at one input. -/
def fnExactJudgeAllWrong : ChangeSpec := { name := "fnExactJudgeAll", fn := fun _ => fun
  | [d] => { results := [.lit (.bool false)], args := [d] }
  | _ => none }
def FnExactJudgeAllWrongFalsely : Prop := fnExactJudgeAllRow.holds Tryz.pinned (OpenSpec.ofChange fnExactJudgeAllWrong)

/- THE SECOND FORM. 'bulk': how many values and letters a reading holds, each counted each time it is reached (what is shared counts as often as it is met; a slice's spare places count too). A statement '..UptoSaid' is the law's where the arguments, and the package variables that the reading takes, are together of bulk at most 1048576: NARROWER than '..Said'. Prove '..Said' where nothing that the law and all that it calls make is longer than what came in: it says more and counts as full. Else prove '..UptoSaid'. A law counts once. -/
mutual
def uptoBulk {H : Type} : DataW H → Nat
  | .lit (.string bytes) => bytes.length + 1
  | .lit _ => 1
  | .nil => 1
  | .ptr d => uptoBulk d + 1
  | .slice elems spare => uptoBulkAll elems + uptoBulkAll spare + 1
  | .agg parts => uptoBulkAll parts + 1
  | .iface _ d => uptoBulk d + 1
  | .map entries => uptoBulkEntries entries + 1
  | .held _ => 1
def uptoBulkAll {H : Type} : List (DataW H) → Nat
  | [] => 0
  | d :: r => uptoBulk d + uptoBulkAll r
def uptoBulkEntries {H : Type} : List (Lit × DataW H) → Nat
  | [] => 0
  | x :: r => uptoBulkEntry x + uptoBulkEntries r
def uptoBulkEntry {H : Type} : Lit × DataW H → Nat
  | (.string bytes, d) => bytes.length + uptoBulk d + 1
  | (_, d) => uptoBulk d + 1
 end
def uptoSmall : (H : Type) → List (DataW H) → Bool := fun _ ds => decide (uptoBulkAll ds ≤ 1048576)
def OpenSpec.upto (s : _root_.Go.ChangeSpec) : _root_.Go.OpenSpec := { _root_.Go.OpenSpec.ofChange s with cond := some uptoSmall }

/-- 'laws.FnExactTree', WHERE WHAT IT READS IS OF BULK AT MOST 1048576: true; the input reads as it did. -/
def fnExactTreeUptoRow : OpenClaim := { program := "ytkkgagllehdhhaagreatdoor", sum := "079abdb2fc2fc42356516f406c06347aba991a0975567b6ed04fd6fe3699be13", func := "loop.example/g00448/laws.FnExactTree", spec := "fnExactTree", inPlace := ["slices.overlaps[int]", "internal/bytealg.CountString", "internal/bytealg.IndexByteString", "internal/bytealg.IndexString"], unfollowed := true, recurses := true, named := ["unicode/utf8.first", "unicode/utf8.acceptRanges", "internal/bytealg.MaxLen", "internal/strconv.uint64pow10", "math/bits.deBruijn32tab", "math/bits.deBruijn64tab"], apart := false, laid := [("math/bits.deBruijn32tab", laid_math_bits_deBruijn32tab), ("math/bits.deBruijn64tab", laid_math_bits_deBruijn64tab), ("internal/strconv.uint64pow10", laid_internal_strconv_uint64pow10), ("unicode/utf8.acceptRanges", laid_unicode_utf8_acceptRanges), ("unicode/utf8.first", laid_unicode_utf8_first)], narrowed := true }
def FnExactTreeUptoSaid : Prop := fnExactTreeUptoRow.holds Tryz.pinned (OpenSpec.upto fnExactTreeSpec)

/-- 'laws.FnExactRepText', WHERE WHAT IT READS IS OF BULK AT MOST 1048576: true; the input reads as it did. -/
def fnExactRepTextUptoRow : OpenClaim := { program := "ytkkgagllehdhhaagreatdoor", sum := "079abdb2fc2fc42356516f406c06347aba991a0975567b6ed04fd6fe3699be13", func := "loop.example/g00448/laws.FnExactRepText", spec := "fnExactRepText", inPlace := ["internal/bytealg.CountString", "internal/bytealg.IndexByteString", "internal/bytealg.IndexString", "internal/abi.NoEscape", "internal/bytealg.MakeNoZero"], named := ["unicode/utf8.first", "unicode/utf8.acceptRanges", "internal/bytealg.MaxLen", "internal/strconv.uint64pow10", "math/bits.deBruijn32tab", "math/bits.deBruijn64tab"], apart := false, laid := [("math/bits.deBruijn32tab", laid_math_bits_deBruijn32tab), ("math/bits.deBruijn64tab", laid_math_bits_deBruijn64tab), ("internal/strconv.uint64pow10", laid_internal_strconv_uint64pow10), ("unicode/utf8.acceptRanges", laid_unicode_utf8_acceptRanges), ("unicode/utf8.first", laid_unicode_utf8_first)], narrowed := true }
def FnExactRepTextUptoSaid : Prop := fnExactRepTextUptoRow.holds Tryz.pinned (OpenSpec.upto fnExactRepTextSpec)

/-- 'laws.FnExactWorldText', WHERE WHAT IT READS IS OF BULK AT MOST 1048576: true; the input reads as it did. -/
def fnExactWorldTextUptoRow : OpenClaim := { program := "ytkkgagllehdhhaagreatdoor", sum := "079abdb2fc2fc42356516f406c06347aba991a0975567b6ed04fd6fe3699be13", func := "loop.example/g00448/laws.FnExactWorldText", spec := "fnExactWorldText", inPlace := ["internal/bytealg.CountString", "internal/bytealg.IndexByteString", "internal/bytealg.IndexString", "internal/abi.NoEscape", "internal/bytealg.MakeNoZero"], named := ["unicode/utf8.first", "unicode/utf8.acceptRanges", "internal/bytealg.MaxLen", "internal/strconv.uint64pow10", "math/bits.deBruijn32tab", "math/bits.deBruijn64tab"], apart := false, laid := [("math/bits.deBruijn32tab", laid_math_bits_deBruijn32tab), ("math/bits.deBruijn64tab", laid_math_bits_deBruijn64tab), ("internal/strconv.uint64pow10", laid_internal_strconv_uint64pow10), ("unicode/utf8.acceptRanges", laid_unicode_utf8_acceptRanges), ("unicode/utf8.first", laid_unicode_utf8_first)], narrowed := true }
def FnExactWorldTextUptoSaid : Prop := fnExactWorldTextUptoRow.holds Tryz.pinned (OpenSpec.upto fnExactWorldTextSpec)

/-- 'laws.FnExactRoomOk', WHERE WHAT IT READS IS OF BULK AT MOST 1048576: true; the input reads as it did. -/
def fnExactRoomOkUptoRow : OpenClaim := { program := "ytkkgagllehdhhaagreatdoor", sum := "079abdb2fc2fc42356516f406c06347aba991a0975567b6ed04fd6fe3699be13", func := "loop.example/g00448/laws.FnExactRoomOk", spec := "fnExactRoomOk", inPlace := ["internal/bytealg.CountString", "internal/bytealg.IndexByteString", "internal/bytealg.IndexString"], named := ["unicode/utf8.first", "unicode/utf8.acceptRanges", "internal/bytealg.MaxLen", "internal/strconv.uint64pow10", "math/bits.deBruijn32tab", "math/bits.deBruijn64tab"], apart := false, laid := [("math/bits.deBruijn32tab", laid_math_bits_deBruijn32tab), ("math/bits.deBruijn64tab", laid_math_bits_deBruijn64tab), ("internal/strconv.uint64pow10", laid_internal_strconv_uint64pow10), ("unicode/utf8.acceptRanges", laid_unicode_utf8_acceptRanges), ("unicode/utf8.first", laid_unicode_utf8_first)], narrowed := true }
def FnExactRoomOkUptoSaid : Prop := fnExactRoomOkUptoRow.holds Tryz.pinned (OpenSpec.upto fnExactRoomOkSpec)

/-- 'laws.FnExactJudgeVotes', WHERE WHAT IT READS IS OF BULK AT MOST 1048576: true; the input reads as it did. -/
def fnExactJudgeVotesUptoRow : OpenClaim := { program := "ytkkgagllehdhhaagreatdoor", sum := "079abdb2fc2fc42356516f406c06347aba991a0975567b6ed04fd6fe3699be13", func := "loop.example/g00448/laws.FnExactJudgeVotes", spec := "fnExactJudgeVotes", inPlace := ["internal/bytealg.CountString", "internal/bytealg.IndexByteString", "internal/bytealg.IndexString"], named := ["unicode/utf8.first", "unicode/utf8.acceptRanges", "internal/bytealg.MaxLen", "internal/strconv.uint64pow10", "math/bits.deBruijn32tab", "math/bits.deBruijn64tab"], apart := false, laid := [("math/bits.deBruijn32tab", laid_math_bits_deBruijn32tab), ("math/bits.deBruijn64tab", laid_math_bits_deBruijn64tab), ("internal/strconv.uint64pow10", laid_internal_strconv_uint64pow10), ("unicode/utf8.acceptRanges", laid_unicode_utf8_acceptRanges), ("unicode/utf8.first", laid_unicode_utf8_first)], narrowed := true }
def FnExactJudgeVotesUptoSaid : Prop := fnExactJudgeVotesUptoRow.holds Tryz.pinned (OpenSpec.upto fnExactJudgeVotesSpec)

/-- 'laws.FnExactTop', WHERE WHAT IT READS IS OF BULK AT MOST 1048576: true; the input reads as it did. -/
def fnExactTopUptoRow : OpenClaim := { program := "ytkkgagllehdhhaagreatdoor", sum := "079abdb2fc2fc42356516f406c06347aba991a0975567b6ed04fd6fe3699be13", func := "loop.example/g00448/laws.FnExactTop", spec := "fnExactTop", inPlace := ["internal/bytealg.CountString", "internal/bytealg.IndexByteString", "internal/bytealg.IndexString"], named := ["unicode/utf8.first", "unicode/utf8.acceptRanges", "internal/bytealg.MaxLen", "internal/strconv.uint64pow10", "math/bits.deBruijn32tab", "math/bits.deBruijn64tab"], apart := false, laid := [("math/bits.deBruijn32tab", laid_math_bits_deBruijn32tab), ("math/bits.deBruijn64tab", laid_math_bits_deBruijn64tab), ("internal/strconv.uint64pow10", laid_internal_strconv_uint64pow10), ("unicode/utf8.acceptRanges", laid_unicode_utf8_acceptRanges), ("unicode/utf8.first", laid_unicode_utf8_first)], narrowed := true }
def FnExactTopUptoSaid : Prop := fnExactTopUptoRow.holds Tryz.pinned (OpenSpec.upto fnExactTopSpec)

/-- 'laws.FnExactJudgeOne', WHERE WHAT IT READS IS OF BULK AT MOST 1048576: true; the input reads as it did. -/
def fnExactJudgeOneUptoRow : OpenClaim := { program := "ytkkgagllehdhhaagreatdoor", sum := "079abdb2fc2fc42356516f406c06347aba991a0975567b6ed04fd6fe3699be13", func := "loop.example/g00448/laws.FnExactJudgeOne", spec := "fnExactJudgeOne", inPlace := ["internal/bytealg.CountString", "internal/bytealg.IndexByteString", "internal/bytealg.IndexString"], named := ["unicode/utf8.first", "unicode/utf8.acceptRanges", "internal/bytealg.MaxLen", "internal/strconv.uint64pow10", "math/bits.deBruijn32tab", "math/bits.deBruijn64tab"], apart := false, laid := [("math/bits.deBruijn32tab", laid_math_bits_deBruijn32tab), ("math/bits.deBruijn64tab", laid_math_bits_deBruijn64tab), ("internal/strconv.uint64pow10", laid_internal_strconv_uint64pow10), ("unicode/utf8.acceptRanges", laid_unicode_utf8_acceptRanges), ("unicode/utf8.first", laid_unicode_utf8_first)], narrowed := true }
def FnExactJudgeOneUptoSaid : Prop := fnExactJudgeOneUptoRow.holds Tryz.pinned (OpenSpec.upto fnExactJudgeOneSpec)

/-- 'laws.FnExactJudgeCerts', WHERE WHAT IT READS IS OF BULK AT MOST 1048576: true; the input reads as it did. -/
def fnExactJudgeCertsUptoRow : OpenClaim := { program := "ytkkgagllehdhhaagreatdoor", sum := "079abdb2fc2fc42356516f406c06347aba991a0975567b6ed04fd6fe3699be13", func := "loop.example/g00448/laws.FnExactJudgeCerts", spec := "fnExactJudgeCerts", inPlace := ["internal/bytealg.CountString", "internal/bytealg.IndexByteString", "internal/bytealg.IndexString"], named := ["unicode/utf8.first", "unicode/utf8.acceptRanges", "internal/bytealg.MaxLen", "internal/strconv.uint64pow10", "math/bits.deBruijn32tab", "math/bits.deBruijn64tab"], apart := false, laid := [("math/bits.deBruijn32tab", laid_math_bits_deBruijn32tab), ("math/bits.deBruijn64tab", laid_math_bits_deBruijn64tab), ("internal/strconv.uint64pow10", laid_internal_strconv_uint64pow10), ("unicode/utf8.acceptRanges", laid_unicode_utf8_acceptRanges), ("unicode/utf8.first", laid_unicode_utf8_first)], narrowed := true }
def FnExactJudgeCertsUptoSaid : Prop := fnExactJudgeCertsUptoRow.holds Tryz.pinned (OpenSpec.upto fnExactJudgeCertsSpec)

/-- 'laws.FnExactJudgeKept', WHERE WHAT IT READS IS OF BULK AT MOST 1048576: true; the input reads as it did. -/
def fnExactJudgeKeptUptoRow : OpenClaim := { program := "ytkkgagllehdhhaagreatdoor", sum := "079abdb2fc2fc42356516f406c06347aba991a0975567b6ed04fd6fe3699be13", func := "loop.example/g00448/laws.FnExactJudgeKept", spec := "fnExactJudgeKept", inPlace := ["internal/bytealg.CountString", "internal/bytealg.IndexByteString", "internal/bytealg.IndexString"], named := ["unicode/utf8.first", "unicode/utf8.acceptRanges", "internal/bytealg.MaxLen", "internal/strconv.uint64pow10", "math/bits.deBruijn32tab", "math/bits.deBruijn64tab"], apart := false, laid := [("math/bits.deBruijn32tab", laid_math_bits_deBruijn32tab), ("math/bits.deBruijn64tab", laid_math_bits_deBruijn64tab), ("internal/strconv.uint64pow10", laid_internal_strconv_uint64pow10), ("unicode/utf8.acceptRanges", laid_unicode_utf8_acceptRanges), ("unicode/utf8.first", laid_unicode_utf8_first)], narrowed := true }
def FnExactJudgeKeptUptoSaid : Prop := fnExactJudgeKeptUptoRow.holds Tryz.pinned (OpenSpec.upto fnExactJudgeKeptSpec)

/-- 'laws.FnExactJudgePaid', WHERE WHAT IT READS IS OF BULK AT MOST 1048576: true; the input reads as it did. -/
def fnExactJudgePaidUptoRow : OpenClaim := { program := "ytkkgagllehdhhaagreatdoor", sum := "079abdb2fc2fc42356516f406c06347aba991a0975567b6ed04fd6fe3699be13", func := "loop.example/g00448/laws.FnExactJudgePaid", spec := "fnExactJudgePaid", inPlace := ["internal/bytealg.CountString", "internal/bytealg.IndexByteString", "internal/bytealg.IndexString"], named := ["unicode/utf8.first", "unicode/utf8.acceptRanges", "internal/bytealg.MaxLen", "internal/strconv.uint64pow10", "math/bits.deBruijn32tab", "math/bits.deBruijn64tab"], apart := false, laid := [("math/bits.deBruijn32tab", laid_math_bits_deBruijn32tab), ("math/bits.deBruijn64tab", laid_math_bits_deBruijn64tab), ("internal/strconv.uint64pow10", laid_internal_strconv_uint64pow10), ("unicode/utf8.acceptRanges", laid_unicode_utf8_acceptRanges), ("unicode/utf8.first", laid_unicode_utf8_first)], narrowed := true }
def FnExactJudgePaidUptoSaid : Prop := fnExactJudgePaidUptoRow.holds Tryz.pinned (OpenSpec.upto fnExactJudgePaidSpec)

/-- 'laws.FnExactJudgeAll', WHERE WHAT IT READS IS OF BULK AT MOST 1048576: true; the input reads as it did. -/
def fnExactJudgeAllUptoRow : OpenClaim := { program := "ytkkgagllehdhhaagreatdoor", sum := "079abdb2fc2fc42356516f406c06347aba991a0975567b6ed04fd6fe3699be13", func := "loop.example/g00448/laws.FnExactJudgeAll", spec := "fnExactJudgeAll", inPlace := ["internal/bytealg.CountString", "internal/bytealg.IndexByteString", "internal/bytealg.IndexString"], named := ["unicode/utf8.first", "unicode/utf8.acceptRanges", "internal/bytealg.MaxLen", "internal/strconv.uint64pow10", "math/bits.deBruijn32tab", "math/bits.deBruijn64tab"], apart := false, laid := [("math/bits.deBruijn32tab", laid_math_bits_deBruijn32tab), ("math/bits.deBruijn64tab", laid_math_bits_deBruijn64tab), ("internal/strconv.uint64pow10", laid_internal_strconv_uint64pow10), ("unicode/utf8.acceptRanges", laid_unicode_utf8_acceptRanges), ("unicode/utf8.first", laid_unicode_utf8_first)], narrowed := true }
def FnExactJudgeAllUptoSaid : Prop := fnExactJudgeAllUptoRow.holds Tryz.pinned (OpenSpec.upto fnExactJudgeAllSpec)

end Rows
end Go.Proofs.YtkkgagllehdhhaaGreatDoor
