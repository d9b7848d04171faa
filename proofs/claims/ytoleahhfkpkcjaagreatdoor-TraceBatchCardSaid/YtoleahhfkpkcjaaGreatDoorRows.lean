/-
  NARROWER THAN 'FOR EVERY INPUT', by the rows' own cells (each row's printed sentence says how): TraceMatchesReference: laid · TraceSets: laid · TraceOthers: laid · TraceErrors: laid · TraceExplains: laid · TraceBatch: laid.
  DERIVED. THE GIVEN ROWS OF THIS SEAT. 6 by the template 'for every input the law returns true; each argument reads behind the call as it read before'; 0 by the template 'total and deterministic' (their statements: YtoleahhfkpkcjaaGreatDoorTotals.lean).
  GIVEN WITH THE SEED: the statements are not yours to turn. If you find one false, say at which input.
  Laid BY PROGRAM, IN A SANDBOX (cutbox-rows.mjs): the forced cells as the released guide's own fill.sh prints them over the translation 2e5e01f4c0f9121e… (all of the seat's roots in one cut). By AI agents, Wed Nov 11 2026. No macro, syntax, notation, axiom, sorry.
-/
import Derived.Test.YtoleahhfkpkcjaaGreatDoorChecked
import GoSem.Claim
import GoSem.ClaimJoined
import GoSem.ClaimMapViews
import Derived.JoinedTies
import Derived.KernelRfl
namespace Go.Proofs.YtoleahhfkpkcjaaGreatDoor
/- THE CELL 'sum', in the pinned program and in every row, IS THE sha256 OF THE DUMP (.gsa) THAT YtoleahhfkpkcjaaGreatDoorProg.lean LOADS. Nothing in Lean hashes anything: it is a label: what it is worth is what the hold of that sum in a sandbox is worth. -/
noncomputable def Tryz.pinned : Pinned := { name := "ytoleahhfkpkcjaagreatdoor", sum := "2e5e01f4c0f9121e97e12f99a0771da7d2e92e8ca94aa0944509c0ad8b845c51", checked := Tryz.checked }
namespace Rows
def none {H : Type} : Left H := { results := [], args := [] }

/- WHAT THE LISTED PACKAGE-LEVEL VARIABLES READ AS WHEN THE CALL BEGINS. Each datum BY PROGRAM (the guide's laid-datum.mjs) off the statement by which the dump's own 'gosem.cut.vars' lays the variable. In a bare row this is a premise. The card (YtoleahhfkpkcjaaGreatDoorCards.lean) ties it to the program's text. -/
def laid_math_bits_deBruijn32tab {H : Type} : DataW H := .agg [.lit (.int .u8 0), .lit (.int .u8 1), .lit (.int .u8 28), .lit (.int .u8 2), .lit (.int .u8 29), .lit (.int .u8 14), .lit (.int .u8 24), .lit (.int .u8 3), .lit (.int .u8 30), .lit (.int .u8 22), .lit (.int .u8 20), .lit (.int .u8 15), .lit (.int .u8 25), .lit (.int .u8 17), .lit (.int .u8 4), .lit (.int .u8 8), .lit (.int .u8 31), .lit (.int .u8 27), .lit (.int .u8 13), .lit (.int .u8 23), .lit (.int .u8 21), .lit (.int .u8 19), .lit (.int .u8 16), .lit (.int .u8 7), .lit (.int .u8 26), .lit (.int .u8 12), .lit (.int .u8 18), .lit (.int .u8 6), .lit (.int .u8 11), .lit (.int .u8 5), .lit (.int .u8 10), .lit (.int .u8 9)]
def laid_math_bits_deBruijn64tab {H : Type} : DataW H := .agg [.lit (.int .u8 0), .lit (.int .u8 1), .lit (.int .u8 56), .lit (.int .u8 2), .lit (.int .u8 57), .lit (.int .u8 49), .lit (.int .u8 28), .lit (.int .u8 3), .lit (.int .u8 61), .lit (.int .u8 58), .lit (.int .u8 42), .lit (.int .u8 50), .lit (.int .u8 38), .lit (.int .u8 29), .lit (.int .u8 17), .lit (.int .u8 4), .lit (.int .u8 62), .lit (.int .u8 47), .lit (.int .u8 59), .lit (.int .u8 36), .lit (.int .u8 45), .lit (.int .u8 43), .lit (.int .u8 51), .lit (.int .u8 22), .lit (.int .u8 53), .lit (.int .u8 39), .lit (.int .u8 33), .lit (.int .u8 30), .lit (.int .u8 24), .lit (.int .u8 18), .lit (.int .u8 12), .lit (.int .u8 5), .lit (.int .u8 63), .lit (.int .u8 55), .lit (.int .u8 48), .lit (.int .u8 27), .lit (.int .u8 60), .lit (.int .u8 41), .lit (.int .u8 37), .lit (.int .u8 16), .lit (.int .u8 46), .lit (.int .u8 35), .lit (.int .u8 44), .lit (.int .u8 21), .lit (.int .u8 52), .lit (.int .u8 32), .lit (.int .u8 23), .lit (.int .u8 11), .lit (.int .u8 54), .lit (.int .u8 26), .lit (.int .u8 40), .lit (.int .u8 15), .lit (.int .u8 34), .lit (.int .u8 20), .lit (.int .u8 31), .lit (.int .u8 10), .lit (.int .u8 25), .lit (.int .u8 14), .lit (.int .u8 19), .lit (.int .u8 9), .lit (.int .u8 13), .lit (.int .u8 8), .lit (.int .u8 7), .lit (.int .u8 6)]
def laid_internal_strconv_uint64pow10 {H : Type} : DataW H := .agg [.lit (.int .u64 1), .lit (.int .u64 10), .lit (.int .u64 100), .lit (.int .u64 1000), .lit (.int .u64 10000), .lit (.int .u64 100000), .lit (.int .u64 1000000), .lit (.int .u64 10000000), .lit (.int .u64 100000000), .lit (.int .u64 1000000000), .lit (.int .u64 10000000000), .lit (.int .u64 100000000000), .lit (.int .u64 1000000000000), .lit (.int .u64 10000000000000), .lit (.int .u64 100000000000000), .lit (.int .u64 1000000000000000), .lit (.int .u64 10000000000000000), .lit (.int .u64 100000000000000000), .lit (.int .u64 1000000000000000000), .lit (.int .u64 10000000000000000000)]
def laid_postilion_survey_keyWords {H : Type} : DataW H := .agg [.lit (.string [99, 97, 108, 101, 110, 100, 97, 114]), .lit (.string [111, 112, 101, 114, 97, 116, 111, 114]), .lit (.string [111, 102, 102, 105, 99, 101]), .lit (.string [108, 105, 110, 101]), .lit (.string [99, 108, 97, 115, 115]), .lit (.string [122, 111, 110, 101]), .lit (.string [119, 101, 101, 107]), .lit (.string [104, 111, 108, 105, 100, 97, 121]), .lit (.string [112, 111, 99, 107, 101, 116, 115]), .lit (.string [112, 97, 115, 115, 101, 115]), .lit (.string [109, 105, 110, 117, 116, 101, 115]), .lit (.string [99, 111, 100, 101, 115]), .lit (.string [97, 116]), .lit (.string [116, 114, 97, 118, 101, 108]), .lit (.string [108, 111, 97, 100]), .lit (.string [99, 117, 116]), .lit (.string [100, 101, 108, 105, 118, 101, 114])]

/-- 'postilionlaw31.TraceMatchesReference': WHATEVER THE INPUT: true; the input reads as it did. -/
def traceMatchesReferenceSpec : ChangeSpec := { name := "traceMatchesReference", fn := fun _ => fun
  | [d1, d2, d3, d4, d5, d6] => { results := [.lit (.bool true)], args := [d1, d2, d3, d4, d5, d6] }
  | _ => none }
def traceMatchesReferenceRow : OpenClaim := { program := "ytoleahhfkpkcjaagreatdoor", sum := "2e5e01f4c0f9121e97e12f99a0771da7d2e92e8ca94aa0944509c0ad8b845c51", func := "postilion/postilionlaw31.TraceMatchesReference", spec := "traceMatchesReference", inPlace := ["slices.overlaps[postilion/api.Record]", "internal/abi.NoEscape", "internal/bytealg.MakeNoZero"], unfollowed := true, recurses := true, named := ["postilion/survey.keyWords", "internal/strconv.uint64pow10", "math/bits.deBruijn32tab", "math/bits.deBruijn64tab"], plainKeys := false, apart := false, laid := [("math/bits.deBruijn32tab", laid_math_bits_deBruijn32tab), ("math/bits.deBruijn64tab", laid_math_bits_deBruijn64tab), ("internal/strconv.uint64pow10", laid_internal_strconv_uint64pow10), ("postilion/survey.keyWords", laid_postilion_survey_keyWords)] }
def TraceMatchesReferenceSaid : Prop := traceMatchesReferenceRow.holds Tryz.pinned (OpenSpec.ofChange traceMatchesReferenceSpec)

/-- ITS FALSE NEIGHBOUR: 'it returns false'. Refute it at one input. -/
def traceMatchesReferenceWrong : ChangeSpec := { name := "traceMatchesReference", fn := fun _ => fun
  | [d1, d2, d3, d4, d5, d6] => { results := [.lit (.bool false)], args := [d1, d2, d3, d4, d5, d6] }
  | _ => none }
def TraceMatchesReferenceWrongFalsely : Prop := traceMatchesReferenceRow.holds Tryz.pinned (OpenSpec.ofChange traceMatchesReferenceWrong)

/-- 'postilionlaw31.TraceSets': WHATEVER THE INPUT: true; the input reads as it did. -/
def traceSetsSpec : ChangeSpec := { name := "traceSets", fn := fun _ => fun
  | [d1, d2, d3, d4, d5, d6, d7] => { results := [.lit (.bool true)], args := [d1, d2, d3, d4, d5, d6, d7] }
  | _ => none }
def traceSetsRow : OpenClaim := { program := "ytoleahhfkpkcjaagreatdoor", sum := "2e5e01f4c0f9121e97e12f99a0771da7d2e92e8ca94aa0944509c0ad8b845c51", func := "postilion/postilionlaw31.TraceSets", spec := "traceSets", inPlace := ["slices.overlaps[postilion/api.Record]", "internal/abi.NoEscape", "internal/bytealg.MakeNoZero"], unfollowed := true, recurses := true, named := ["postilion/survey.keyWords", "internal/strconv.uint64pow10", "math/bits.deBruijn32tab", "math/bits.deBruijn64tab"], plainKeys := false, apart := false, laid := [("math/bits.deBruijn32tab", laid_math_bits_deBruijn32tab), ("math/bits.deBruijn64tab", laid_math_bits_deBruijn64tab), ("internal/strconv.uint64pow10", laid_internal_strconv_uint64pow10), ("postilion/survey.keyWords", laid_postilion_survey_keyWords)] }
def TraceSetsSaid : Prop := traceSetsRow.holds Tryz.pinned (OpenSpec.ofChange traceSetsSpec)

/-- ITS FALSE NEIGHBOUR: 'it returns false'. Refute it at one input. -/
def traceSetsWrong : ChangeSpec := { name := "traceSets", fn := fun _ => fun
  | [d1, d2, d3, d4, d5, d6, d7] => { results := [.lit (.bool false)], args := [d1, d2, d3, d4, d5, d6, d7] }
  | _ => none }
def TraceSetsWrongFalsely : Prop := traceSetsRow.holds Tryz.pinned (OpenSpec.ofChange traceSetsWrong)

/-- 'postilionlaw31.TraceOthers': WHATEVER THE INPUT: true; the input reads as it did. -/
def traceOthersSpec : ChangeSpec := { name := "traceOthers", fn := fun _ => fun
  | [d1, d2, d3, d4, d5, d6, d7] => { results := [.lit (.bool true)], args := [d1, d2, d3, d4, d5, d6, d7] }
  | _ => none }
def traceOthersRow : OpenClaim := { program := "ytoleahhfkpkcjaagreatdoor", sum := "2e5e01f4c0f9121e97e12f99a0771da7d2e92e8ca94aa0944509c0ad8b845c51", func := "postilion/postilionlaw31.TraceOthers", spec := "traceOthers", inPlace := ["slices.overlaps[postilion/api.Record]", "internal/abi.NoEscape", "internal/bytealg.MakeNoZero"], unfollowed := true, recurses := true, named := ["postilion/survey.keyWords", "internal/strconv.uint64pow10", "math/bits.deBruijn32tab", "math/bits.deBruijn64tab"], plainKeys := false, apart := false, laid := [("math/bits.deBruijn32tab", laid_math_bits_deBruijn32tab), ("math/bits.deBruijn64tab", laid_math_bits_deBruijn64tab), ("internal/strconv.uint64pow10", laid_internal_strconv_uint64pow10), ("postilion/survey.keyWords", laid_postilion_survey_keyWords)] }
def TraceOthersSaid : Prop := traceOthersRow.holds Tryz.pinned (OpenSpec.ofChange traceOthersSpec)

/-- ITS FALSE NEIGHBOUR: 'it returns false'. Refute it at one input. -/
def traceOthersWrong : ChangeSpec := { name := "traceOthers", fn := fun _ => fun
  | [d1, d2, d3, d4, d5, d6, d7] => { results := [.lit (.bool false)], args := [d1, d2, d3, d4, d5, d6, d7] }
  | _ => none }
def TraceOthersWrongFalsely : Prop := traceOthersRow.holds Tryz.pinned (OpenSpec.ofChange traceOthersWrong)

/-- 'postilionlaw31.TraceErrors': WHATEVER THE INPUT: true; the input reads as it did. -/
def traceErrorsSpec : ChangeSpec := { name := "traceErrors", fn := fun _ => fun
  | [d1, d2, d3, d4, d5, d6, d7] => { results := [.lit (.bool true)], args := [d1, d2, d3, d4, d5, d6, d7] }
  | _ => none }
def traceErrorsRow : OpenClaim := { program := "ytoleahhfkpkcjaagreatdoor", sum := "2e5e01f4c0f9121e97e12f99a0771da7d2e92e8ca94aa0944509c0ad8b845c51", func := "postilion/postilionlaw31.TraceErrors", spec := "traceErrors", inPlace := ["slices.overlaps[postilion/api.Record]", "internal/abi.NoEscape", "internal/bytealg.MakeNoZero"], unfollowed := true, recurses := true, named := ["postilion/survey.keyWords", "internal/strconv.uint64pow10", "math/bits.deBruijn32tab", "math/bits.deBruijn64tab"], plainKeys := false, apart := false, laid := [("math/bits.deBruijn32tab", laid_math_bits_deBruijn32tab), ("math/bits.deBruijn64tab", laid_math_bits_deBruijn64tab), ("internal/strconv.uint64pow10", laid_internal_strconv_uint64pow10), ("postilion/survey.keyWords", laid_postilion_survey_keyWords)] }
def TraceErrorsSaid : Prop := traceErrorsRow.holds Tryz.pinned (OpenSpec.ofChange traceErrorsSpec)

/-- ITS FALSE NEIGHBOUR: 'it returns false'. Refute it at one input. -/
def traceErrorsWrong : ChangeSpec := { name := "traceErrors", fn := fun _ => fun
  | [d1, d2, d3, d4, d5, d6, d7] => { results := [.lit (.bool false)], args := [d1, d2, d3, d4, d5, d6, d7] }
  | _ => none }
def TraceErrorsWrongFalsely : Prop := traceErrorsRow.holds Tryz.pinned (OpenSpec.ofChange traceErrorsWrong)

/-- 'postilionlaw31.TraceExplains': WHATEVER THE INPUT: true; the input reads as it did. -/
def traceExplainsSpec : ChangeSpec := { name := "traceExplains", fn := fun _ => fun
  | [d1, d2, d3, d4, d5] => { results := [.lit (.bool true)], args := [d1, d2, d3, d4, d5] }
  | _ => none }
def traceExplainsRow : OpenClaim := { program := "ytoleahhfkpkcjaagreatdoor", sum := "2e5e01f4c0f9121e97e12f99a0771da7d2e92e8ca94aa0944509c0ad8b845c51", func := "postilion/postilionlaw31.TraceExplains", spec := "traceExplains", inPlace := ["slices.overlaps[postilion/api.Record]", "internal/abi.NoEscape", "internal/bytealg.MakeNoZero"], unfollowed := true, recurses := true, named := ["postilion/survey.keyWords", "internal/strconv.uint64pow10", "math/bits.deBruijn32tab", "math/bits.deBruijn64tab"], plainKeys := false, apart := false, laid := [("math/bits.deBruijn32tab", laid_math_bits_deBruijn32tab), ("math/bits.deBruijn64tab", laid_math_bits_deBruijn64tab), ("internal/strconv.uint64pow10", laid_internal_strconv_uint64pow10), ("postilion/survey.keyWords", laid_postilion_survey_keyWords)] }
def TraceExplainsSaid : Prop := traceExplainsRow.holds Tryz.pinned (OpenSpec.ofChange traceExplainsSpec)

/-- ITS FALSE NEIGHBOUR: 'it returns false'. Refute it at one input. -/
def traceExplainsWrong : ChangeSpec := { name := "traceExplains", fn := fun _ => fun
  | [d1, d2, d3, d4, d5] => { results := [.lit (.bool false)], args := [d1, d2, d3, d4, d5] }
  | _ => none }
def TraceExplainsWrongFalsely : Prop := traceExplainsRow.holds Tryz.pinned (OpenSpec.ofChange traceExplainsWrong)

/-- 'postilionlaw31.TraceBatch': WHATEVER THE INPUT: true; the input reads as it did. -/
def traceBatchSpec : ChangeSpec := { name := "traceBatch", fn := fun _ => fun
  | [d1, d2, d3, d4, d5, d6] => { results := [.lit (.bool true)], args := [d1, d2, d3, d4, d5, d6] }
  | _ => none }
def traceBatchRow : OpenClaim := { program := "ytoleahhfkpkcjaagreatdoor", sum := "2e5e01f4c0f9121e97e12f99a0771da7d2e92e8ca94aa0944509c0ad8b845c51", func := "postilion/postilionlaw31.TraceBatch", spec := "traceBatch", inPlace := ["slices.overlaps[postilion/api.Record]", "internal/abi.NoEscape", "internal/bytealg.MakeNoZero"], unfollowed := true, recurses := true, named := ["postilion/survey.keyWords", "internal/strconv.uint64pow10", "math/bits.deBruijn32tab", "math/bits.deBruijn64tab"], plainKeys := false, apart := false, laid := [("math/bits.deBruijn32tab", laid_math_bits_deBruijn32tab), ("math/bits.deBruijn64tab", laid_math_bits_deBruijn64tab), ("internal/strconv.uint64pow10", laid_internal_strconv_uint64pow10), ("postilion/survey.keyWords", laid_postilion_survey_keyWords)] }
def TraceBatchSaid : Prop := traceBatchRow.holds Tryz.pinned (OpenSpec.ofChange traceBatchSpec)

/-- ITS FALSE NEIGHBOUR: 'it returns false'. Refute it at one input. -/
def traceBatchWrong : ChangeSpec := { name := "traceBatch", fn := fun _ => fun
  | [d1, d2, d3, d4, d5, d6] => { results := [.lit (.bool false)], args := [d1, d2, d3, d4, d5, d6] }
  | _ => none }
def TraceBatchWrongFalsely : Prop := traceBatchRow.holds Tryz.pinned (OpenSpec.ofChange traceBatchWrong)

/- THE SECOND FORM. 'bulk': how many values and letters a reading holds, each counted each time it is reached (what is shared counts as often as it is met; a slice's spare places count too). A statement '..UptoSaid' is the law's where the arguments, and the package variables that the reading takes, are together of bulk at most 1048576: NARROWER than '..Said'. Prove '..Said' where nothing that the law and all that it calls make is longer than what came in: it says more and counts as full. Else prove '..UptoSaid'. A law counts once. -/
mutual
def uptoBulk {H : Type} : DataW H → Nat
  | .lit (.string bytes) => bytes.length + 1
  | .lit _ => 1
  | .nil => 1
  | .ptr d => uptoBulk d + 1
  | .slice elems spare => uptoBulkAll elems + uptoBulkAll spare + 1
  | .agg parts => uptoBulkAll parts + 1
  | .iface _ d => uptoBulk d + 1
  | .map entries => uptoBulkEntries entries + 1
  | .held _ => 1
def uptoBulkAll {H : Type} : List (DataW H) → Nat
  | [] => 0
  | d :: r => uptoBulk d + uptoBulkAll r
def uptoBulkEntries {H : Type} : List (Lit × DataW H) → Nat
  | [] => 0
  | x :: r => uptoBulkEntry x + uptoBulkEntries r
def uptoBulkEntry {H : Type} : Lit × DataW H → Nat
  | (.string bytes, d) => bytes.length + uptoBulk d + 1
  | (_, d) => uptoBulk d + 1
 end
def uptoSmall : (H : Type) → List (DataW H) → Bool := fun _ ds => decide (uptoBulkAll ds ≤ 1048576)
def OpenSpec.upto (s : _root_.Go.ChangeSpec) : _root_.Go.OpenSpec := { _root_.Go.OpenSpec.ofChange s with cond := some uptoSmall }

/-- 'postilionlaw31.TraceMatchesReference', WHERE WHAT IT READS IS OF BULK AT MOST 1048576: true; the input reads as it did. -/
def traceMatchesReferenceUptoRow : OpenClaim := { program := "ytoleahhfkpkcjaagreatdoor", sum := "2e5e01f4c0f9121e97e12f99a0771da7d2e92e8ca94aa0944509c0ad8b845c51", func := "postilion/postilionlaw31.TraceMatchesReference", spec := "traceMatchesReference", inPlace := ["slices.overlaps[postilion/api.Record]", "internal/abi.NoEscape", "internal/bytealg.MakeNoZero"], unfollowed := true, recurses := true, named := ["postilion/survey.keyWords", "internal/strconv.uint64pow10", "math/bits.deBruijn32tab", "math/bits.deBruijn64tab"], plainKeys := false, apart := false, laid := [("math/bits.deBruijn32tab", laid_math_bits_deBruijn32tab), ("math/bits.deBruijn64tab", laid_math_bits_deBruijn64tab), ("internal/strconv.uint64pow10", laid_internal_strconv_uint64pow10), ("postilion/survey.keyWords", laid_postilion_survey_keyWords)], narrowed := true }
def TraceMatchesReferenceUptoSaid : Prop := traceMatchesReferenceUptoRow.holds Tryz.pinned (OpenSpec.upto traceMatchesReferenceSpec)

/-- 'postilionlaw31.TraceSets', WHERE WHAT IT READS IS OF BULK AT MOST 1048576: true; the input reads as it did. -/
def traceSetsUptoRow : OpenClaim := { program := "ytoleahhfkpkcjaagreatdoor", sum := "2e5e01f4c0f9121e97e12f99a0771da7d2e92e8ca94aa0944509c0ad8b845c51", func := "postilion/postilionlaw31.TraceSets", spec := "traceSets", inPlace := ["slices.overlaps[postilion/api.Record]", "internal/abi.NoEscape", "internal/bytealg.MakeNoZero"], unfollowed := true, recurses := true, named := ["postilion/survey.keyWords", "internal/strconv.uint64pow10", "math/bits.deBruijn32tab", "math/bits.deBruijn64tab"], plainKeys := false, apart := false, laid := [("math/bits.deBruijn32tab", laid_math_bits_deBruijn32tab), ("math/bits.deBruijn64tab", laid_math_bits_deBruijn64tab), ("internal/strconv.uint64pow10", laid_internal_strconv_uint64pow10), ("postilion/survey.keyWords", laid_postilion_survey_keyWords)], narrowed := true }
def TraceSetsUptoSaid : Prop := traceSetsUptoRow.holds Tryz.pinned (OpenSpec.upto traceSetsSpec)

/-- 'postilionlaw31.TraceOthers', WHERE WHAT IT READS IS OF BULK AT MOST 1048576: true; the input reads as it did. -/
def traceOthersUptoRow : OpenClaim := { program := "ytoleahhfkpkcjaagreatdoor", sum := "2e5e01f4c0f9121e97e12f99a0771da7d2e92e8ca94aa0944509c0ad8b845c51", func := "postilion/postilionlaw31.TraceOthers", spec := "traceOthers", inPlace := ["slices.overlaps[postilion/api.Record]", "internal/abi.NoEscape", "internal/bytealg.MakeNoZero"], unfollowed := true, recurses := true, named := ["postilion/survey.keyWords", "internal/strconv.uint64pow10", "math/bits.deBruijn32tab", "math/bits.deBruijn64tab"], plainKeys := false, apart := false, laid := [("math/bits.deBruijn32tab", laid_math_bits_deBruijn32tab), ("math/bits.deBruijn64tab", laid_math_bits_deBruijn64tab), ("internal/strconv.uint64pow10", laid_internal_strconv_uint64pow10), ("postilion/survey.keyWords", laid_postilion_survey_keyWords)], narrowed := true }
def TraceOthersUptoSaid : Prop := traceOthersUptoRow.holds Tryz.pinned (OpenSpec.upto traceOthersSpec)

/-- 'postilionlaw31.TraceErrors', WHERE WHAT IT READS IS OF BULK AT MOST 1048576: true; the input reads as it did. -/
def traceErrorsUptoRow : OpenClaim := { program := "ytoleahhfkpkcjaagreatdoor", sum := "2e5e01f4c0f9121e97e12f99a0771da7d2e92e8ca94aa0944509c0ad8b845c51", func := "postilion/postilionlaw31.TraceErrors", spec := "traceErrors", inPlace := ["slices.overlaps[postilion/api.Record]", "internal/abi.NoEscape", "internal/bytealg.MakeNoZero"], unfollowed := true, recurses := true, named := ["postilion/survey.keyWords", "internal/strconv.uint64pow10", "math/bits.deBruijn32tab", "math/bits.deBruijn64tab"], plainKeys := false, apart := false, laid := [("math/bits.deBruijn32tab", laid_math_bits_deBruijn32tab), ("math/bits.deBruijn64tab", laid_math_bits_deBruijn64tab), ("internal/strconv.uint64pow10", laid_internal_strconv_uint64pow10), ("postilion/survey.keyWords", laid_postilion_survey_keyWords)], narrowed := true }
def TraceErrorsUptoSaid : Prop := traceErrorsUptoRow.holds Tryz.pinned (OpenSpec.upto traceErrorsSpec)

/-- 'postilionlaw31.TraceExplains', WHERE WHAT IT READS IS OF BULK AT MOST 1048576: true; the input reads as it did. -/
def traceExplainsUptoRow : OpenClaim := { program := "ytoleahhfkpkcjaagreatdoor", sum := "2e5e01f4c0f9121e97e12f99a0771da7d2e92e8ca94aa0944509c0ad8b845c51", func := "postilion/postilionlaw31.TraceExplains", spec := "traceExplains", inPlace := ["slices.overlaps[postilion/api.Record]", "internal/abi.NoEscape", "internal/bytealg.MakeNoZero"], unfollowed := true, recurses := true, named := ["postilion/survey.keyWords", "internal/strconv.uint64pow10", "math/bits.deBruijn32tab", "math/bits.deBruijn64tab"], plainKeys := false, apart := false, laid := [("math/bits.deBruijn32tab", laid_math_bits_deBruijn32tab), ("math/bits.deBruijn64tab", laid_math_bits_deBruijn64tab), ("internal/strconv.uint64pow10", laid_internal_strconv_uint64pow10), ("postilion/survey.keyWords", laid_postilion_survey_keyWords)], narrowed := true }
def TraceExplainsUptoSaid : Prop := traceExplainsUptoRow.holds Tryz.pinned (OpenSpec.upto traceExplainsSpec)

/-- 'postilionlaw31.TraceBatch', WHERE WHAT IT READS IS OF BULK AT MOST 1048576: true; the input reads as it did. -/
def traceBatchUptoRow : OpenClaim := { program := "ytoleahhfkpkcjaagreatdoor", sum := "2e5e01f4c0f9121e97e12f99a0771da7d2e92e8ca94aa0944509c0ad8b845c51", func := "postilion/postilionlaw31.TraceBatch", spec := "traceBatch", inPlace := ["slices.overlaps[postilion/api.Record]", "internal/abi.NoEscape", "internal/bytealg.MakeNoZero"], unfollowed := true, recurses := true, named := ["postilion/survey.keyWords", "internal/strconv.uint64pow10", "math/bits.deBruijn32tab", "math/bits.deBruijn64tab"], plainKeys := false, apart := false, laid := [("math/bits.deBruijn32tab", laid_math_bits_deBruijn32tab), ("math/bits.deBruijn64tab", laid_math_bits_deBruijn64tab), ("internal/strconv.uint64pow10", laid_internal_strconv_uint64pow10), ("postilion/survey.keyWords", laid_postilion_survey_keyWords)], narrowed := true }
def TraceBatchUptoSaid : Prop := traceBatchUptoRow.holds Tryz.pinned (OpenSpec.upto traceBatchSpec)

end Rows
end Go.Proofs.YtoleahhfkpkcjaaGreatDoor
