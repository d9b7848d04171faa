/-
  NARROWER THAN 'FOR EVERY INPUT', by the rows' own cells (each row's printed sentence says how): VerdictMatchesReference: laid · VerdictRulings: laid · VerdictLiable: laid · VerdictEvidence: laid · VerdictPapers: laid · VerdictDue: laid · VerdictTruth: laid.
  DERIVED. THE GIVEN ROWS OF THIS SEAT. 7 by the template 'for every input the law returns true; each argument reads behind the call as it read before'; 0 by the template 'total and deterministic' (their statements: YtobaafdejnimkaaGreatDoorTotals.lean).
  GIVEN WITH THE SEED: the statements are not yours to turn. If you find one false, say at which input.
  Laid BY PROGRAM, IN A SANDBOX (cutbox-rows.mjs): the forced cells as the released guide's own fill.sh prints them over the translation 928869b5a4daed2a… (all of the seat's roots in one cut). By AI agents, Wed Nov 11 2026. No macro, syntax, notation, axiom, sorry.
-/
import Derived.Test.YtobaafdejnimkaaGreatDoorChecked
import GoSem.Claim
import GoSem.ClaimJoined
import GoSem.ClaimMapViews
import Derived.JoinedTies
import Derived.KernelRfl
namespace Go.Proofs.YtobaafdejnimkaaGreatDoor
/- THE CELL 'sum', in the pinned program and in every row, IS THE sha256 OF THE DUMP (.gsa) THAT YtobaafdejnimkaaGreatDoorProg.lean LOADS. Nothing in Lean hashes anything: it is a label: what it is worth is what the hold of that sum in a sandbox is worth. -/
noncomputable def Tryz.pinned : Pinned := { name := "ytobaafdejnimkaagreatdoor", sum := "928869b5a4daed2a1585a8b235b5d882427967aa9c3cb997f6b4d09398996d41", checked := Tryz.checked }
namespace Rows
def none {H : Type} : Left H := { results := [], args := [] }

/- WHAT THE LISTED PACKAGE-LEVEL VARIABLES READ AS WHEN THE CALL BEGINS. Each datum BY PROGRAM (the guide's laid-datum.mjs) off the statement by which the dump's own 'gosem.cut.vars' lays the variable. In a bare row this is a premise. The card (YtobaafdejnimkaaGreatDoorCards.lean) ties it to the program's text. -/
def laid_math_bits_deBruijn32tab {H : Type} : DataW H := .agg [.lit (.int .u8 0), .lit (.int .u8 1), .lit (.int .u8 28), .lit (.int .u8 2), .lit (.int .u8 29), .lit (.int .u8 14), .lit (.int .u8 24), .lit (.int .u8 3), .lit (.int .u8 30), .lit (.int .u8 22), .lit (.int .u8 20), .lit (.int .u8 15), .lit (.int .u8 25), .lit (.int .u8 17), .lit (.int .u8 4), .lit (.int .u8 8), .lit (.int .u8 31), .lit (.int .u8 27), .lit (.int .u8 13), .lit (.int .u8 23), .lit (.int .u8 21), .lit (.int .u8 19), .lit (.int .u8 16), .lit (.int .u8 7), .lit (.int .u8 26), .lit (.int .u8 12), .lit (.int .u8 18), .lit (.int .u8 6), .lit (.int .u8 11), .lit (.int .u8 5), .lit (.int .u8 10), .lit (.int .u8 9)]
def laid_math_bits_deBruijn64tab {H : Type} : DataW H := .agg [.lit (.int .u8 0), .lit (.int .u8 1), .lit (.int .u8 56), .lit (.int .u8 2), .lit (.int .u8 57), .lit (.int .u8 49), .lit (.int .u8 28), .lit (.int .u8 3), .lit (.int .u8 61), .lit (.int .u8 58), .lit (.int .u8 42), .lit (.int .u8 50), .lit (.int .u8 38), .lit (.int .u8 29), .lit (.int .u8 17), .lit (.int .u8 4), .lit (.int .u8 62), .lit (.int .u8 47), .lit (.int .u8 59), .lit (.int .u8 36), .lit (.int .u8 45), .lit (.int .u8 43), .lit (.int .u8 51), .lit (.int .u8 22), .lit (.int .u8 53), .lit (.int .u8 39), .lit (.int .u8 33), .lit (.int .u8 30), .lit (.int .u8 24), .lit (.int .u8 18), .lit (.int .u8 12), .lit (.int .u8 5), .lit (.int .u8 63), .lit (.int .u8 55), .lit (.int .u8 48), .lit (.int .u8 27), .lit (.int .u8 60), .lit (.int .u8 41), .lit (.int .u8 37), .lit (.int .u8 16), .lit (.int .u8 46), .lit (.int .u8 35), .lit (.int .u8 44), .lit (.int .u8 21), .lit (.int .u8 52), .lit (.int .u8 32), .lit (.int .u8 23), .lit (.int .u8 11), .lit (.int .u8 54), .lit (.int .u8 26), .lit (.int .u8 40), .lit (.int .u8 15), .lit (.int .u8 34), .lit (.int .u8 20), .lit (.int .u8 31), .lit (.int .u8 10), .lit (.int .u8 25), .lit (.int .u8 14), .lit (.int .u8 19), .lit (.int .u8 9), .lit (.int .u8 13), .lit (.int .u8 8), .lit (.int .u8 7), .lit (.int .u8 6)]
def laid_internal_strconv_uint64pow10 {H : Type} : DataW H := .agg [.lit (.int .u64 1), .lit (.int .u64 10), .lit (.int .u64 100), .lit (.int .u64 1000), .lit (.int .u64 10000), .lit (.int .u64 100000), .lit (.int .u64 1000000), .lit (.int .u64 10000000), .lit (.int .u64 100000000), .lit (.int .u64 1000000000), .lit (.int .u64 10000000000), .lit (.int .u64 100000000000), .lit (.int .u64 1000000000000), .lit (.int .u64 10000000000000), .lit (.int .u64 100000000000000), .lit (.int .u64 1000000000000000), .lit (.int .u64 10000000000000000), .lit (.int .u64 100000000000000000), .lit (.int .u64 1000000000000000000), .lit (.int .u64 10000000000000000000)]
def laid_postilion_survey_keyWords {H : Type} : DataW H := .agg [.lit (.string [99, 97, 108, 101, 110, 100, 97, 114]), .lit (.string [111, 112, 101, 114, 97, 116, 111, 114]), .lit (.string [111, 102, 102, 105, 99, 101]), .lit (.string [108, 105, 110, 101]), .lit (.string [99, 108, 97, 115, 115]), .lit (.string [122, 111, 110, 101]), .lit (.string [119, 101, 101, 107]), .lit (.string [104, 111, 108, 105, 100, 97, 121]), .lit (.string [112, 111, 99, 107, 101, 116, 115]), .lit (.string [112, 97, 115, 115, 101, 115]), .lit (.string [109, 105, 110, 117, 116, 101, 115]), .lit (.string [99, 111, 100, 101, 115]), .lit (.string [97, 116]), .lit (.string [116, 114, 97, 118, 101, 108]), .lit (.string [108, 111, 97, 100]), .lit (.string [99, 117, 116]), .lit (.string [100, 101, 108, 105, 118, 101, 114])]

/-- 'postilionlaw35.VerdictMatchesReference': WHATEVER THE INPUT: true; the input reads as it did. -/
def verdictMatchesReferenceSpec : ChangeSpec := { name := "verdictMatchesReference", fn := fun _ => fun
  | [d1, d2, d3, d4, d5, d6, d7, d8, d9, d10] => { results := [.lit (.bool true)], args := [d1, d2, d3, d4, d5, d6, d7, d8, d9, d10] }
  | _ => none }
def verdictMatchesReferenceRow : OpenClaim := { program := "ytobaafdejnimkaagreatdoor", sum := "928869b5a4daed2a1585a8b235b5d882427967aa9c3cb997f6b4d09398996d41", func := "postilion/postilionlaw35.VerdictMatchesReference", spec := "verdictMatchesReference", inPlace := ["internal/abi.NoEscape", "internal/bytealg.MakeNoZero"], unfollowed := true, recurses := true, named := ["postilion/survey.keyWords", "internal/strconv.uint64pow10", "math/bits.deBruijn32tab", "math/bits.deBruijn64tab"], plainKeys := false, apart := false, laid := [("math/bits.deBruijn32tab", laid_math_bits_deBruijn32tab), ("math/bits.deBruijn64tab", laid_math_bits_deBruijn64tab), ("internal/strconv.uint64pow10", laid_internal_strconv_uint64pow10), ("postilion/survey.keyWords", laid_postilion_survey_keyWords)] }
def VerdictMatchesReferenceSaid : Prop := verdictMatchesReferenceRow.holds Tryz.pinned (OpenSpec.ofChange verdictMatchesReferenceSpec)

/-- ITS FALSE NEIGHBOUR: 'it returns false'. Refute it at one input. -/
def verdictMatchesReferenceWrong : ChangeSpec := { name := "verdictMatchesReference", fn := fun _ => fun
  | [d1, d2, d3, d4, d5, d6, d7, d8, d9, d10] => { results := [.lit (.bool false)], args := [d1, d2, d3, d4, d5, d6, d7, d8, d9, d10] }
  | _ => none }
def VerdictMatchesReferenceWrongFalsely : Prop := verdictMatchesReferenceRow.holds Tryz.pinned (OpenSpec.ofChange verdictMatchesReferenceWrong)

/-- 'postilionlaw35.VerdictRulings': WHATEVER THE INPUT: true; the input reads as it did. -/
def verdictRulingsSpec : ChangeSpec := { name := "verdictRulings", fn := fun _ => fun
  | [d1, d2, d3, d4, d5, d6, d7] => { results := [.lit (.bool true)], args := [d1, d2, d3, d4, d5, d6, d7] }
  | _ => none }
def verdictRulingsRow : OpenClaim := { program := "ytobaafdejnimkaagreatdoor", sum := "928869b5a4daed2a1585a8b235b5d882427967aa9c3cb997f6b4d09398996d41", func := "postilion/postilionlaw35.VerdictRulings", spec := "verdictRulings", inPlace := ["internal/abi.NoEscape", "internal/bytealg.MakeNoZero"], unfollowed := true, recurses := true, named := ["postilion/survey.keyWords", "internal/strconv.uint64pow10", "math/bits.deBruijn32tab", "math/bits.deBruijn64tab"], plainKeys := false, apart := false, laid := [("math/bits.deBruijn32tab", laid_math_bits_deBruijn32tab), ("math/bits.deBruijn64tab", laid_math_bits_deBruijn64tab), ("internal/strconv.uint64pow10", laid_internal_strconv_uint64pow10), ("postilion/survey.keyWords", laid_postilion_survey_keyWords)] }
def VerdictRulingsSaid : Prop := verdictRulingsRow.holds Tryz.pinned (OpenSpec.ofChange verdictRulingsSpec)

/-- ITS FALSE NEIGHBOUR: 'it returns false'. Refute it at one input. -/
def verdictRulingsWrong : ChangeSpec := { name := "verdictRulings", fn := fun _ => fun
  | [d1, d2, d3, d4, d5, d6, d7] => { results := [.lit (.bool false)], args := [d1, d2, d3, d4, d5, d6, d7] }
  | _ => none }
def VerdictRulingsWrongFalsely : Prop := verdictRulingsRow.holds Tryz.pinned (OpenSpec.ofChange verdictRulingsWrong)

/-- 'postilionlaw35.VerdictLiable': WHATEVER THE INPUT: true; the input reads as it did. -/
def verdictLiableSpec : ChangeSpec := { name := "verdictLiable", fn := fun _ => fun
  | [d1, d2, d3, d4, d5, d6, d7] => { results := [.lit (.bool true)], args := [d1, d2, d3, d4, d5, d6, d7] }
  | _ => none }
def verdictLiableRow : OpenClaim := { program := "ytobaafdejnimkaagreatdoor", sum := "928869b5a4daed2a1585a8b235b5d882427967aa9c3cb997f6b4d09398996d41", func := "postilion/postilionlaw35.VerdictLiable", spec := "verdictLiable", inPlace := ["internal/abi.NoEscape", "internal/bytealg.MakeNoZero"], unfollowed := true, recurses := true, named := ["postilion/survey.keyWords", "internal/strconv.uint64pow10", "math/bits.deBruijn32tab", "math/bits.deBruijn64tab"], plainKeys := false, apart := false, laid := [("math/bits.deBruijn32tab", laid_math_bits_deBruijn32tab), ("math/bits.deBruijn64tab", laid_math_bits_deBruijn64tab), ("internal/strconv.uint64pow10", laid_internal_strconv_uint64pow10), ("postilion/survey.keyWords", laid_postilion_survey_keyWords)] }
def VerdictLiableSaid : Prop := verdictLiableRow.holds Tryz.pinned (OpenSpec.ofChange verdictLiableSpec)

/-- ITS FALSE NEIGHBOUR: 'it returns false'. Refute it at one input. -/
def verdictLiableWrong : ChangeSpec := { name := "verdictLiable", fn := fun _ => fun
  | [d1, d2, d3, d4, d5, d6, d7] => { results := [.lit (.bool false)], args := [d1, d2, d3, d4, d5, d6, d7] }
  | _ => none }
def VerdictLiableWrongFalsely : Prop := verdictLiableRow.holds Tryz.pinned (OpenSpec.ofChange verdictLiableWrong)

/-- 'postilionlaw35.VerdictEvidence': WHATEVER THE INPUT: true; the input reads as it did. -/
def verdictEvidenceSpec : ChangeSpec := { name := "verdictEvidence", fn := fun _ => fun
  | [d1, d2, d3, d4, d5, d6] => { results := [.lit (.bool true)], args := [d1, d2, d3, d4, d5, d6] }
  | _ => none }
def verdictEvidenceRow : OpenClaim := { program := "ytobaafdejnimkaagreatdoor", sum := "928869b5a4daed2a1585a8b235b5d882427967aa9c3cb997f6b4d09398996d41", func := "postilion/postilionlaw35.VerdictEvidence", spec := "verdictEvidence", inPlace := ["internal/abi.NoEscape", "internal/bytealg.MakeNoZero"], unfollowed := true, recurses := true, named := ["postilion/survey.keyWords", "internal/strconv.uint64pow10", "math/bits.deBruijn32tab", "math/bits.deBruijn64tab"], plainKeys := false, apart := false, laid := [("math/bits.deBruijn32tab", laid_math_bits_deBruijn32tab), ("math/bits.deBruijn64tab", laid_math_bits_deBruijn64tab), ("internal/strconv.uint64pow10", laid_internal_strconv_uint64pow10), ("postilion/survey.keyWords", laid_postilion_survey_keyWords)] }
def VerdictEvidenceSaid : Prop := verdictEvidenceRow.holds Tryz.pinned (OpenSpec.ofChange verdictEvidenceSpec)

/-- ITS FALSE NEIGHBOUR: 'it returns false'. Refute it at one input. -/
def verdictEvidenceWrong : ChangeSpec := { name := "verdictEvidence", fn := fun _ => fun
  | [d1, d2, d3, d4, d5, d6] => { results := [.lit (.bool false)], args := [d1, d2, d3, d4, d5, d6] }
  | _ => none }
def VerdictEvidenceWrongFalsely : Prop := verdictEvidenceRow.holds Tryz.pinned (OpenSpec.ofChange verdictEvidenceWrong)

/-- 'postilionlaw35.VerdictPapers': WHATEVER THE INPUT: true; the input reads as it did. -/
def verdictPapersSpec : ChangeSpec := { name := "verdictPapers", fn := fun _ => fun
  | [d1, d2, d3, d4, d5, d6] => { results := [.lit (.bool true)], args := [d1, d2, d3, d4, d5, d6] }
  | _ => none }
def verdictPapersRow : OpenClaim := { program := "ytobaafdejnimkaagreatdoor", sum := "928869b5a4daed2a1585a8b235b5d882427967aa9c3cb997f6b4d09398996d41", func := "postilion/postilionlaw35.VerdictPapers", spec := "verdictPapers", inPlace := ["internal/abi.NoEscape", "internal/bytealg.MakeNoZero"], unfollowed := true, recurses := true, named := ["postilion/survey.keyWords", "internal/strconv.uint64pow10", "math/bits.deBruijn32tab", "math/bits.deBruijn64tab"], plainKeys := false, apart := false, laid := [("math/bits.deBruijn32tab", laid_math_bits_deBruijn32tab), ("math/bits.deBruijn64tab", laid_math_bits_deBruijn64tab), ("internal/strconv.uint64pow10", laid_internal_strconv_uint64pow10), ("postilion/survey.keyWords", laid_postilion_survey_keyWords)] }
def VerdictPapersSaid : Prop := verdictPapersRow.holds Tryz.pinned (OpenSpec.ofChange verdictPapersSpec)

/-- ITS FALSE NEIGHBOUR: 'it returns false'. Refute it at one input. -/
def verdictPapersWrong : ChangeSpec := { name := "verdictPapers", fn := fun _ => fun
  | [d1, d2, d3, d4, d5, d6] => { results := [.lit (.bool false)], args := [d1, d2, d3, d4, d5, d6] }
  | _ => none }
def VerdictPapersWrongFalsely : Prop := verdictPapersRow.holds Tryz.pinned (OpenSpec.ofChange verdictPapersWrong)

/-- 'postilionlaw35.VerdictDue': WHATEVER THE INPUT: true; the input reads as it did. -/
def verdictDueSpec : ChangeSpec := { name := "verdictDue", fn := fun _ => fun
  | [d1, d2, d3, d4, d5, d6] => { results := [.lit (.bool true)], args := [d1, d2, d3, d4, d5, d6] }
  | _ => none }
def verdictDueRow : OpenClaim := { program := "ytobaafdejnimkaagreatdoor", sum := "928869b5a4daed2a1585a8b235b5d882427967aa9c3cb997f6b4d09398996d41", func := "postilion/postilionlaw35.VerdictDue", spec := "verdictDue", inPlace := ["internal/abi.NoEscape", "internal/bytealg.MakeNoZero"], unfollowed := true, recurses := true, named := ["postilion/survey.keyWords", "internal/strconv.uint64pow10", "math/bits.deBruijn32tab", "math/bits.deBruijn64tab"], plainKeys := false, apart := false, laid := [("math/bits.deBruijn32tab", laid_math_bits_deBruijn32tab), ("math/bits.deBruijn64tab", laid_math_bits_deBruijn64tab), ("internal/strconv.uint64pow10", laid_internal_strconv_uint64pow10), ("postilion/survey.keyWords", laid_postilion_survey_keyWords)] }
def VerdictDueSaid : Prop := verdictDueRow.holds Tryz.pinned (OpenSpec.ofChange verdictDueSpec)

/-- ITS FALSE NEIGHBOUR: 'it returns false'. Refute it at one input. -/
def verdictDueWrong : ChangeSpec := { name := "verdictDue", fn := fun _ => fun
  | [d1, d2, d3, d4, d5, d6] => { results := [.lit (.bool false)], args := [d1, d2, d3, d4, d5, d6] }
  | _ => none }
def VerdictDueWrongFalsely : Prop := verdictDueRow.holds Tryz.pinned (OpenSpec.ofChange verdictDueWrong)

/-- 'postilionlaw35.VerdictTruth': WHATEVER THE INPUT: true; the input reads as it did. -/
def verdictTruthSpec : ChangeSpec := { name := "verdictTruth", fn := fun _ => fun
  | [d1, d2, d3, d4, d5, d6] => { results := [.lit (.bool true)], args := [d1, d2, d3, d4, d5, d6] }
  | _ => none }
def verdictTruthRow : OpenClaim := { program := "ytobaafdejnimkaagreatdoor", sum := "928869b5a4daed2a1585a8b235b5d882427967aa9c3cb997f6b4d09398996d41", func := "postilion/postilionlaw35.VerdictTruth", spec := "verdictTruth", inPlace := ["internal/abi.NoEscape", "internal/bytealg.MakeNoZero"], unfollowed := true, recurses := true, named := ["postilion/survey.keyWords", "internal/strconv.uint64pow10", "math/bits.deBruijn32tab", "math/bits.deBruijn64tab"], plainKeys := false, apart := false, laid := [("math/bits.deBruijn32tab", laid_math_bits_deBruijn32tab), ("math/bits.deBruijn64tab", laid_math_bits_deBruijn64tab), ("internal/strconv.uint64pow10", laid_internal_strconv_uint64pow10), ("postilion/survey.keyWords", laid_postilion_survey_keyWords)] }
def VerdictTruthSaid : Prop := verdictTruthRow.holds Tryz.pinned (OpenSpec.ofChange verdictTruthSpec)

/-- ITS FALSE NEIGHBOUR: 'it returns false'. Refute it at one input. -/
def verdictTruthWrong : ChangeSpec := { name := "verdictTruth", fn := fun _ => fun
  | [d1, d2, d3, d4, d5, d6] => { results := [.lit (.bool false)], args := [d1, d2, d3, d4, d5, d6] }
  | _ => none }
def VerdictTruthWrongFalsely : Prop := verdictTruthRow.holds Tryz.pinned (OpenSpec.ofChange verdictTruthWrong)

/- THE SECOND FORM. 'bulk': how many values and letters a reading holds, each counted each time it is reached (what is shared counts as often as it is met; a slice's spare places count too). A statement '..UptoSaid' is the law's where the arguments, and the package variables that the reading takes, are together of bulk at most 1048576: NARROWER than '..Said'. Prove '..Said' where nothing that the law and all that it calls make is longer than what came in: it says more and counts as full. Else prove '..UptoSaid'. A law counts once. -/
mutual
def uptoBulk {H : Type} : DataW H → Nat
  | .lit (.string bytes) => bytes.length + 1
  | .lit _ => 1
  | .nil => 1
  | .ptr d => uptoBulk d + 1
  | .slice elems spare => uptoBulkAll elems + uptoBulkAll spare + 1
  | .agg parts => uptoBulkAll parts + 1
  | .iface _ d => uptoBulk d + 1
  | .map entries => uptoBulkEntries entries + 1
  | .held _ => 1
def uptoBulkAll {H : Type} : List (DataW H) → Nat
  | [] => 0
  | d :: r => uptoBulk d + uptoBulkAll r
def uptoBulkEntries {H : Type} : List (Lit × DataW H) → Nat
  | [] => 0
  | x :: r => uptoBulkEntry x + uptoBulkEntries r
def uptoBulkEntry {H : Type} : Lit × DataW H → Nat
  | (.string bytes, d) => bytes.length + uptoBulk d + 1
  | (_, d) => uptoBulk d + 1
 end
def uptoSmall : (H : Type) → List (DataW H) → Bool := fun _ ds => decide (uptoBulkAll ds ≤ 1048576)
def OpenSpec.upto (s : _root_.Go.ChangeSpec) : _root_.Go.OpenSpec := { _root_.Go.OpenSpec.ofChange s with cond := some uptoSmall }

/-- 'postilionlaw35.VerdictMatchesReference', WHERE WHAT IT READS IS OF BULK AT MOST 1048576: true; the input reads as it did. -/
def verdictMatchesReferenceUptoRow : OpenClaim := { program := "ytobaafdejnimkaagreatdoor", sum := "928869b5a4daed2a1585a8b235b5d882427967aa9c3cb997f6b4d09398996d41", func := "postilion/postilionlaw35.VerdictMatchesReference", spec := "verdictMatchesReference", inPlace := ["internal/abi.NoEscape", "internal/bytealg.MakeNoZero"], unfollowed := true, recurses := true, named := ["postilion/survey.keyWords", "internal/strconv.uint64pow10", "math/bits.deBruijn32tab", "math/bits.deBruijn64tab"], plainKeys := false, apart := false, laid := [("math/bits.deBruijn32tab", laid_math_bits_deBruijn32tab), ("math/bits.deBruijn64tab", laid_math_bits_deBruijn64tab), ("internal/strconv.uint64pow10", laid_internal_strconv_uint64pow10), ("postilion/survey.keyWords", laid_postilion_survey_keyWords)], narrowed := true }
def VerdictMatchesReferenceUptoSaid : Prop := verdictMatchesReferenceUptoRow.holds Tryz.pinned (OpenSpec.upto verdictMatchesReferenceSpec)

/-- 'postilionlaw35.VerdictRulings', WHERE WHAT IT READS IS OF BULK AT MOST 1048576: true; the input reads as it did. -/
def verdictRulingsUptoRow : OpenClaim := { program := "ytobaafdejnimkaagreatdoor", sum := "928869b5a4daed2a1585a8b235b5d882427967aa9c3cb997f6b4d09398996d41", func := "postilion/postilionlaw35.VerdictRulings", spec := "verdictRulings", inPlace := ["internal/abi.NoEscape", "internal/bytealg.MakeNoZero"], unfollowed := true, recurses := true, named := ["postilion/survey.keyWords", "internal/strconv.uint64pow10", "math/bits.deBruijn32tab", "math/bits.deBruijn64tab"], plainKeys := false, apart := false, laid := [("math/bits.deBruijn32tab", laid_math_bits_deBruijn32tab), ("math/bits.deBruijn64tab", laid_math_bits_deBruijn64tab), ("internal/strconv.uint64pow10", laid_internal_strconv_uint64pow10), ("postilion/survey.keyWords", laid_postilion_survey_keyWords)], narrowed := true }
def VerdictRulingsUptoSaid : Prop := verdictRulingsUptoRow.holds Tryz.pinned (OpenSpec.upto verdictRulingsSpec)

/-- 'postilionlaw35.VerdictLiable', WHERE WHAT IT READS IS OF BULK AT MOST 1048576: true; the input reads as it did. -/
def verdictLiableUptoRow : OpenClaim := { program := "ytobaafdejnimkaagreatdoor", sum := "928869b5a4daed2a1585a8b235b5d882427967aa9c3cb997f6b4d09398996d41", func := "postilion/postilionlaw35.VerdictLiable", spec := "verdictLiable", inPlace := ["internal/abi.NoEscape", "internal/bytealg.MakeNoZero"], unfollowed := true, recurses := true, named := ["postilion/survey.keyWords", "internal/strconv.uint64pow10", "math/bits.deBruijn32tab", "math/bits.deBruijn64tab"], plainKeys := false, apart := false, laid := [("math/bits.deBruijn32tab", laid_math_bits_deBruijn32tab), ("math/bits.deBruijn64tab", laid_math_bits_deBruijn64tab), ("internal/strconv.uint64pow10", laid_internal_strconv_uint64pow10), ("postilion/survey.keyWords", laid_postilion_survey_keyWords)], narrowed := true }
def VerdictLiableUptoSaid : Prop := verdictLiableUptoRow.holds Tryz.pinned (OpenSpec.upto verdictLiableSpec)

/-- 'postilionlaw35.VerdictEvidence', WHERE WHAT IT READS IS OF BULK AT MOST 1048576: true; the input reads as it did. -/
def verdictEvidenceUptoRow : OpenClaim := { program := "ytobaafdejnimkaagreatdoor", sum := "928869b5a4daed2a1585a8b235b5d882427967aa9c3cb997f6b4d09398996d41", func := "postilion/postilionlaw35.VerdictEvidence", spec := "verdictEvidence", inPlace := ["internal/abi.NoEscape", "internal/bytealg.MakeNoZero"], unfollowed := true, recurses := true, named := ["postilion/survey.keyWords", "internal/strconv.uint64pow10", "math/bits.deBruijn32tab", "math/bits.deBruijn64tab"], plainKeys := false, apart := false, laid := [("math/bits.deBruijn32tab", laid_math_bits_deBruijn32tab), ("math/bits.deBruijn64tab", laid_math_bits_deBruijn64tab), ("internal/strconv.uint64pow10", laid_internal_strconv_uint64pow10), ("postilion/survey.keyWords", laid_postilion_survey_keyWords)], narrowed := true }
def VerdictEvidenceUptoSaid : Prop := verdictEvidenceUptoRow.holds Tryz.pinned (OpenSpec.upto verdictEvidenceSpec)

/-- 'postilionlaw35.VerdictPapers', WHERE WHAT IT READS IS OF BULK AT MOST 1048576: true; the input reads as it did. -/
def verdictPapersUptoRow : OpenClaim := { program := "ytobaafdejnimkaagreatdoor", sum := "928869b5a4daed2a1585a8b235b5d882427967aa9c3cb997f6b4d09398996d41", func := "postilion/postilionlaw35.VerdictPapers", spec := "verdictPapers", inPlace := ["internal/abi.NoEscape", "internal/bytealg.MakeNoZero"], unfollowed := true, recurses := true, named := ["postilion/survey.keyWords", "internal/strconv.uint64pow10", "math/bits.deBruijn32tab", "math/bits.deBruijn64tab"], plainKeys := false, apart := false, laid := [("math/bits.deBruijn32tab", laid_math_bits_deBruijn32tab), ("math/bits.deBruijn64tab", laid_math_bits_deBruijn64tab), ("internal/strconv.uint64pow10", laid_internal_strconv_uint64pow10), ("postilion/survey.keyWords", laid_postilion_survey_keyWords)], narrowed := true }
def VerdictPapersUptoSaid : Prop := verdictPapersUptoRow.holds Tryz.pinned (OpenSpec.upto verdictPapersSpec)

/-- 'postilionlaw35.VerdictDue', WHERE WHAT IT READS IS OF BULK AT MOST 1048576: true; the input reads as it did. -/
def verdictDueUptoRow : OpenClaim := { program := "ytobaafdejnimkaagreatdoor", sum := "928869b5a4daed2a1585a8b235b5d882427967aa9c3cb997f6b4d09398996d41", func := "postilion/postilionlaw35.VerdictDue", spec := "verdictDue", inPlace := ["internal/abi.NoEscape", "internal/bytealg.MakeNoZero"], unfollowed := true, recurses := true, named := ["postilion/survey.keyWords", "internal/strconv.uint64pow10", "math/bits.deBruijn32tab", "math/bits.deBruijn64tab"], plainKeys := false, apart := false, laid := [("math/bits.deBruijn32tab", laid_math_bits_deBruijn32tab), ("math/bits.deBruijn64tab", laid_math_bits_deBruijn64tab), ("internal/strconv.uint64pow10", laid_internal_strconv_uint64pow10), ("postilion/survey.keyWords", laid_postilion_survey_keyWords)], narrowed := true }
def VerdictDueUptoSaid : Prop := verdictDueUptoRow.holds Tryz.pinned (OpenSpec.upto verdictDueSpec)

/-- 'postilionlaw35.VerdictTruth', WHERE WHAT IT READS IS OF BULK AT MOST 1048576: true; the input reads as it did. -/
def verdictTruthUptoRow : OpenClaim := { program := "ytobaafdejnimkaagreatdoor", sum := "928869b5a4daed2a1585a8b235b5d882427967aa9c3cb997f6b4d09398996d41", func := "postilion/postilionlaw35.VerdictTruth", spec := "verdictTruth", inPlace := ["internal/abi.NoEscape", "internal/bytealg.MakeNoZero"], unfollowed := true, recurses := true, named := ["postilion/survey.keyWords", "internal/strconv.uint64pow10", "math/bits.deBruijn32tab", "math/bits.deBruijn64tab"], plainKeys := false, apart := false, laid := [("math/bits.deBruijn32tab", laid_math_bits_deBruijn32tab), ("math/bits.deBruijn64tab", laid_math_bits_deBruijn64tab), ("internal/strconv.uint64pow10", laid_internal_strconv_uint64pow10), ("postilion/survey.keyWords", laid_postilion_survey_keyWords)], narrowed := true }
def VerdictTruthUptoSaid : Prop := verdictTruthUptoRow.holds Tryz.pinned (OpenSpec.upto verdictTruthSpec)

end Rows
end Go.Proofs.YtobaafdejnimkaaGreatDoor
