/-
  NARROWER THAN 'FOR EVERY INPUT', by the rows' own cells (each row's printed sentence says how): BisectBound: laid · BisectDeepest: laid · BisectState: laid · BisectReached: laid · BisectFinds: laid · BisectAnswers: laid · PatchsetCheck: laid · PatchsetAdd: laid · PatchsetGraph: laid · PatchsetAdded: laid · PatchsetClosed: laid · PatchsetDual: laid.
  DERIVED. THE GIVEN ROWS OF THIS SEAT. 12 by the template 'for every input the law returns true; each argument reads behind the call as it read before'; 0 by the template 'total and deterministic' (their statements: YtddlffkdpocmhaaGreatDoorTotals.lean).
  GIVEN WITH THE SEED: the statements are not yours to turn. If you find one false, say at which input.
  Laid BY PROGRAM, IN A SANDBOX (cutbox-rows.mjs): the forced cells as the released guide's own fill.sh prints them over the translation 4efe112bf3ffe307… (all of the seat's roots in one cut). By AI agents, Wed Nov 11 2026. No macro, syntax, notation, axiom, sorry.
-/
import Derived.Test.YtddlffkdpocmhaaGreatDoorChecked
import GoSem.Claim
import GoSem.ClaimJoined
import GoSem.ClaimMapViews
import Derived.JoinedTies
import Derived.KernelRfl
namespace Go.Proofs.YtddlffkdpocmhaaGreatDoor
/- THE CELL 'sum', in the pinned program and in every row, IS THE sha256 OF THE DUMP (.gsa) THAT YtddlffkdpocmhaaGreatDoorProg.lean LOADS. Nothing in Lean hashes anything: it is a label: what it is worth is what the hold of that sum in a sandbox is worth. -/
noncomputable def Tryz.pinned : Pinned := { name := "ytddlffkdpocmhaagreatdoor", sum := "4efe112bf3ffe3077123c2cbfeb215c17df611ef9ef5082725f1c9d38aa4b8cd", checked := Tryz.checked }
namespace Rows
def none {H : Type} : Left H := { results := [], args := [] }

/- WHAT THE LISTED PACKAGE-LEVEL VARIABLES READ AS WHEN THE CALL BEGINS. Each datum BY PROGRAM (the guide's laid-datum.mjs) off the statement by which the dump's own 'gosem.cut.vars' lays the variable. In a bare row this is a premise. The card (YtddlffkdpocmhaaGreatDoorCards.lean) ties it to the program's text. -/
def laid_math_bits_deBruijn32tab {H : Type} : DataW H := .agg [.lit (.int .u8 0), .lit (.int .u8 1), .lit (.int .u8 28), .lit (.int .u8 2), .lit (.int .u8 29), .lit (.int .u8 14), .lit (.int .u8 24), .lit (.int .u8 3), .lit (.int .u8 30), .lit (.int .u8 22), .lit (.int .u8 20), .lit (.int .u8 15), .lit (.int .u8 25), .lit (.int .u8 17), .lit (.int .u8 4), .lit (.int .u8 8), .lit (.int .u8 31), .lit (.int .u8 27), .lit (.int .u8 13), .lit (.int .u8 23), .lit (.int .u8 21), .lit (.int .u8 19), .lit (.int .u8 16), .lit (.int .u8 7), .lit (.int .u8 26), .lit (.int .u8 12), .lit (.int .u8 18), .lit (.int .u8 6), .lit (.int .u8 11), .lit (.int .u8 5), .lit (.int .u8 10), .lit (.int .u8 9)]
def laid_math_bits_deBruijn64tab {H : Type} : DataW H := .agg [.lit (.int .u8 0), .lit (.int .u8 1), .lit (.int .u8 56), .lit (.int .u8 2), .lit (.int .u8 57), .lit (.int .u8 49), .lit (.int .u8 28), .lit (.int .u8 3), .lit (.int .u8 61), .lit (.int .u8 58), .lit (.int .u8 42), .lit (.int .u8 50), .lit (.int .u8 38), .lit (.int .u8 29), .lit (.int .u8 17), .lit (.int .u8 4), .lit (.int .u8 62), .lit (.int .u8 47), .lit (.int .u8 59), .lit (.int .u8 36), .lit (.int .u8 45), .lit (.int .u8 43), .lit (.int .u8 51), .lit (.int .u8 22), .lit (.int .u8 53), .lit (.int .u8 39), .lit (.int .u8 33), .lit (.int .u8 30), .lit (.int .u8 24), .lit (.int .u8 18), .lit (.int .u8 12), .lit (.int .u8 5), .lit (.int .u8 63), .lit (.int .u8 55), .lit (.int .u8 48), .lit (.int .u8 27), .lit (.int .u8 60), .lit (.int .u8 41), .lit (.int .u8 37), .lit (.int .u8 16), .lit (.int .u8 46), .lit (.int .u8 35), .lit (.int .u8 44), .lit (.int .u8 21), .lit (.int .u8 52), .lit (.int .u8 32), .lit (.int .u8 23), .lit (.int .u8 11), .lit (.int .u8 54), .lit (.int .u8 26), .lit (.int .u8 40), .lit (.int .u8 15), .lit (.int .u8 34), .lit (.int .u8 20), .lit (.int .u8 31), .lit (.int .u8 10), .lit (.int .u8 25), .lit (.int .u8 14), .lit (.int .u8 19), .lit (.int .u8 9), .lit (.int .u8 13), .lit (.int .u8 8), .lit (.int .u8 7), .lit (.int .u8 6)]
def laid_internal_strconv_uint64pow10 {H : Type} : DataW H := .agg [.lit (.int .u64 1), .lit (.int .u64 10), .lit (.int .u64 100), .lit (.int .u64 1000), .lit (.int .u64 10000), .lit (.int .u64 100000), .lit (.int .u64 1000000), .lit (.int .u64 10000000), .lit (.int .u64 100000000), .lit (.int .u64 1000000000), .lit (.int .u64 10000000000), .lit (.int .u64 100000000000), .lit (.int .u64 1000000000000), .lit (.int .u64 10000000000000), .lit (.int .u64 100000000000000), .lit (.int .u64 1000000000000000), .lit (.int .u64 10000000000000000), .lit (.int .u64 100000000000000000), .lit (.int .u64 1000000000000000000), .lit (.int .u64 10000000000000000000)]

/-- 'quiltlaw31.BisectBound': WHATEVER THE INPUT: true; the input reads as it did. -/
def bisectBoundSpec : ChangeSpec := { name := "bisectBound", fn := fun _ => fun
  | [d] => { results := [.lit (.bool true)], args := [d] }
  | _ => none }
def bisectBoundRow : OpenClaim := { program := "ytddlffkdpocmhaagreatdoor", sum := "4efe112bf3ffe3077123c2cbfeb215c17df611ef9ef5082725f1c9d38aa4b8cd", func := "quilt/quiltlaw31.BisectBound", spec := "bisectBound", inPlace := ["internal/bytealg.Compare", "internal/bytealg.IndexByteString", "internal/abi.NoEscape"], unfollowed := true, recurses := true, named := ["internal/strconv.uint64pow10", "math/bits.deBruijn32tab", "math/bits.deBruijn64tab"], plainKeys := false, apart := false, laid := [("math/bits.deBruijn32tab", laid_math_bits_deBruijn32tab), ("math/bits.deBruijn64tab", laid_math_bits_deBruijn64tab), ("internal/strconv.uint64pow10", laid_internal_strconv_uint64pow10)] }
def BisectBoundSaid : Prop := bisectBoundRow.holds Tryz.pinned (OpenSpec.ofChange bisectBoundSpec)

/-- ITS FALSE NEIGHBOUR: 'it returns false'. Refute it at one input. -/
def bisectBoundWrong : ChangeSpec := { name := "bisectBound", fn := fun _ => fun
  | [d] => { results := [.lit (.bool false)], args := [d] }
  | _ => none }
def BisectBoundWrongFalsely : Prop := bisectBoundRow.holds Tryz.pinned (OpenSpec.ofChange bisectBoundWrong)

/-- 'quiltlaw31.BisectDeepest': WHATEVER THE INPUT: true; the input reads as it did. -/
def bisectDeepestSpec : ChangeSpec := { name := "bisectDeepest", fn := fun _ => fun
  | [d] => { results := [.lit (.bool true)], args := [d] }
  | _ => none }
def bisectDeepestRow : OpenClaim := { program := "ytddlffkdpocmhaagreatdoor", sum := "4efe112bf3ffe3077123c2cbfeb215c17df611ef9ef5082725f1c9d38aa4b8cd", func := "quilt/quiltlaw31.BisectDeepest", spec := "bisectDeepest", inPlace := ["internal/bytealg.Compare", "internal/bytealg.IndexByteString", "internal/abi.NoEscape"], unfollowed := true, recurses := true, named := ["internal/strconv.uint64pow10", "math/bits.deBruijn32tab", "math/bits.deBruijn64tab"], plainKeys := false, apart := false, laid := [("math/bits.deBruijn32tab", laid_math_bits_deBruijn32tab), ("math/bits.deBruijn64tab", laid_math_bits_deBruijn64tab), ("internal/strconv.uint64pow10", laid_internal_strconv_uint64pow10)] }
def BisectDeepestSaid : Prop := bisectDeepestRow.holds Tryz.pinned (OpenSpec.ofChange bisectDeepestSpec)

/-- ITS FALSE NEIGHBOUR: 'it returns false'. Refute it at one input. -/
def bisectDeepestWrong : ChangeSpec := { name := "bisectDeepest", fn := fun _ => fun
  | [d] => { results := [.lit (.bool false)], args := [d] }
  | _ => none }
def BisectDeepestWrongFalsely : Prop := bisectDeepestRow.holds Tryz.pinned (OpenSpec.ofChange bisectDeepestWrong)

/-- 'quiltlaw31.BisectState': WHATEVER THE INPUT: true; the input reads as it did. -/
def bisectStateSpec : ChangeSpec := { name := "bisectState", fn := fun _ => fun
  | [d1, d2, d3] => { results := [.lit (.bool true)], args := [d1, d2, d3] }
  | _ => none }
def bisectStateRow : OpenClaim := { program := "ytddlffkdpocmhaagreatdoor", sum := "4efe112bf3ffe3077123c2cbfeb215c17df611ef9ef5082725f1c9d38aa4b8cd", func := "quilt/quiltlaw31.BisectState", spec := "bisectState", inPlace := ["internal/bytealg.Compare", "internal/bytealg.IndexByteString", "internal/abi.NoEscape"], unfollowed := true, recurses := true, named := ["internal/strconv.uint64pow10", "math/bits.deBruijn32tab", "math/bits.deBruijn64tab"], plainKeys := false, apart := false, laid := [("math/bits.deBruijn32tab", laid_math_bits_deBruijn32tab), ("math/bits.deBruijn64tab", laid_math_bits_deBruijn64tab), ("internal/strconv.uint64pow10", laid_internal_strconv_uint64pow10)] }
def BisectStateSaid : Prop := bisectStateRow.holds Tryz.pinned (OpenSpec.ofChange bisectStateSpec)

/-- ITS FALSE NEIGHBOUR: 'it returns false'. Refute it at one input. -/
def bisectStateWrong : ChangeSpec := { name := "bisectState", fn := fun _ => fun
  | [d1, d2, d3] => { results := [.lit (.bool false)], args := [d1, d2, d3] }
  | _ => none }
def BisectStateWrongFalsely : Prop := bisectStateRow.holds Tryz.pinned (OpenSpec.ofChange bisectStateWrong)

/-- 'quiltlaw31.BisectReached': WHATEVER THE INPUT: true; the input reads as it did. -/
def bisectReachedSpec : ChangeSpec := { name := "bisectReached", fn := fun _ => fun
  | [d1, d2] => { results := [.lit (.bool true)], args := [d1, d2] }
  | _ => none }
def bisectReachedRow : OpenClaim := { program := "ytddlffkdpocmhaagreatdoor", sum := "4efe112bf3ffe3077123c2cbfeb215c17df611ef9ef5082725f1c9d38aa4b8cd", func := "quilt/quiltlaw31.BisectReached", spec := "bisectReached", inPlace := ["internal/bytealg.Compare", "internal/bytealg.IndexByteString", "internal/abi.NoEscape"], unfollowed := true, recurses := true, named := ["internal/strconv.uint64pow10", "math/bits.deBruijn32tab", "math/bits.deBruijn64tab"], plainKeys := false, apart := false, laid := [("math/bits.deBruijn32tab", laid_math_bits_deBruijn32tab), ("math/bits.deBruijn64tab", laid_math_bits_deBruijn64tab), ("internal/strconv.uint64pow10", laid_internal_strconv_uint64pow10)] }
def BisectReachedSaid : Prop := bisectReachedRow.holds Tryz.pinned (OpenSpec.ofChange bisectReachedSpec)

/-- ITS FALSE NEIGHBOUR: 'it returns false'. Refute it at one input. -/
def bisectReachedWrong : ChangeSpec := { name := "bisectReached", fn := fun _ => fun
  | [d1, d2] => { results := [.lit (.bool false)], args := [d1, d2] }
  | _ => none }
def BisectReachedWrongFalsely : Prop := bisectReachedRow.holds Tryz.pinned (OpenSpec.ofChange bisectReachedWrong)

/-- 'quiltlaw31.BisectFinds': WHATEVER THE INPUT: true; the input reads as it did. -/
def bisectFindsSpec : ChangeSpec := { name := "bisectFinds", fn := fun _ => fun
  | [d1, d2] => { results := [.lit (.bool true)], args := [d1, d2] }
  | _ => none }
def bisectFindsRow : OpenClaim := { program := "ytddlffkdpocmhaagreatdoor", sum := "4efe112bf3ffe3077123c2cbfeb215c17df611ef9ef5082725f1c9d38aa4b8cd", func := "quilt/quiltlaw31.BisectFinds", spec := "bisectFinds", inPlace := ["internal/bytealg.Compare", "internal/bytealg.IndexByteString", "internal/abi.NoEscape"], unfollowed := true, recurses := true, named := ["internal/strconv.uint64pow10", "math/bits.deBruijn32tab", "math/bits.deBruijn64tab"], plainKeys := false, apart := false, laid := [("math/bits.deBruijn32tab", laid_math_bits_deBruijn32tab), ("math/bits.deBruijn64tab", laid_math_bits_deBruijn64tab), ("internal/strconv.uint64pow10", laid_internal_strconv_uint64pow10)] }
def BisectFindsSaid : Prop := bisectFindsRow.holds Tryz.pinned (OpenSpec.ofChange bisectFindsSpec)

/-- ITS FALSE NEIGHBOUR: 'it returns false'. Refute it at one input. -/
def bisectFindsWrong : ChangeSpec := { name := "bisectFinds", fn := fun _ => fun
  | [d1, d2] => { results := [.lit (.bool false)], args := [d1, d2] }
  | _ => none }
def BisectFindsWrongFalsely : Prop := bisectFindsRow.holds Tryz.pinned (OpenSpec.ofChange bisectFindsWrong)

/-- 'quiltlaw31.BisectAnswers': WHATEVER THE INPUT: true; the input reads as it did. -/
def bisectAnswersSpec : ChangeSpec := { name := "bisectAnswers", fn := fun _ => fun
  | [d1, d2] => { results := [.lit (.bool true)], args := [d1, d2] }
  | _ => none }
def bisectAnswersRow : OpenClaim := { program := "ytddlffkdpocmhaagreatdoor", sum := "4efe112bf3ffe3077123c2cbfeb215c17df611ef9ef5082725f1c9d38aa4b8cd", func := "quilt/quiltlaw31.BisectAnswers", spec := "bisectAnswers", inPlace := ["internal/bytealg.Compare", "internal/bytealg.IndexByteString", "internal/abi.NoEscape"], unfollowed := true, recurses := true, named := ["internal/strconv.uint64pow10", "math/bits.deBruijn32tab", "math/bits.deBruijn64tab"], plainKeys := false, apart := false, laid := [("math/bits.deBruijn32tab", laid_math_bits_deBruijn32tab), ("math/bits.deBruijn64tab", laid_math_bits_deBruijn64tab), ("internal/strconv.uint64pow10", laid_internal_strconv_uint64pow10)] }
def BisectAnswersSaid : Prop := bisectAnswersRow.holds Tryz.pinned (OpenSpec.ofChange bisectAnswersSpec)

/-- ITS FALSE NEIGHBOUR: 'it returns false'. Refute it at one input. -/
def bisectAnswersWrong : ChangeSpec := { name := "bisectAnswers", fn := fun _ => fun
  | [d1, d2] => { results := [.lit (.bool false)], args := [d1, d2] }
  | _ => none }
def BisectAnswersWrongFalsely : Prop := bisectAnswersRow.holds Tryz.pinned (OpenSpec.ofChange bisectAnswersWrong)

/-- 'quiltlaw17.PatchsetCheck': WHATEVER THE INPUT: true; the input reads as it did. -/
def patchsetCheckSpec : ChangeSpec := { name := "patchsetCheck", fn := fun _ => fun
  | [d1, d2] => { results := [.lit (.bool true)], args := [d1, d2] }
  | _ => none }
def patchsetCheckRow : OpenClaim := { program := "ytddlffkdpocmhaagreatdoor", sum := "4efe112bf3ffe3077123c2cbfeb215c17df611ef9ef5082725f1c9d38aa4b8cd", func := "quilt/quiltlaw17.PatchsetCheck", spec := "patchsetCheck", inPlace := ["internal/bytealg.Compare", "internal/bytealg.IndexByteString", "internal/abi.NoEscape", "slices.overlaps[quilt/api.Stored]"], unfollowed := true, recurses := true, named := ["internal/strconv.uint64pow10", "math/bits.deBruijn32tab", "math/bits.deBruijn64tab"], plainKeys := false, apart := false, laid := [("math/bits.deBruijn32tab", laid_math_bits_deBruijn32tab), ("math/bits.deBruijn64tab", laid_math_bits_deBruijn64tab), ("internal/strconv.uint64pow10", laid_internal_strconv_uint64pow10)] }
def PatchsetCheckSaid : Prop := patchsetCheckRow.holds Tryz.pinned (OpenSpec.ofChange patchsetCheckSpec)

/-- ITS FALSE NEIGHBOUR: 'it returns false'. Refute it at one input. -/
def patchsetCheckWrong : ChangeSpec := { name := "patchsetCheck", fn := fun _ => fun
  | [d1, d2] => { results := [.lit (.bool false)], args := [d1, d2] }
  | _ => none }
def PatchsetCheckWrongFalsely : Prop := patchsetCheckRow.holds Tryz.pinned (OpenSpec.ofChange patchsetCheckWrong)

/-- 'quiltlaw17.PatchsetAdd': WHATEVER THE INPUT: true; the input reads as it did. -/
def patchsetAddSpec : ChangeSpec := { name := "patchsetAdd", fn := fun _ => fun
  | [d1, d2] => { results := [.lit (.bool true)], args := [d1, d2] }
  | _ => none }
def patchsetAddRow : OpenClaim := { program := "ytddlffkdpocmhaagreatdoor", sum := "4efe112bf3ffe3077123c2cbfeb215c17df611ef9ef5082725f1c9d38aa4b8cd", func := "quilt/quiltlaw17.PatchsetAdd", spec := "patchsetAdd", inPlace := ["internal/bytealg.Compare", "internal/bytealg.IndexByteString", "internal/abi.NoEscape", "slices.overlaps[quilt/api.Stored]"], unfollowed := true, recurses := true, named := ["internal/strconv.uint64pow10", "math/bits.deBruijn32tab", "math/bits.deBruijn64tab"], plainKeys := false, apart := false, laid := [("math/bits.deBruijn32tab", laid_math_bits_deBruijn32tab), ("math/bits.deBruijn64tab", laid_math_bits_deBruijn64tab), ("internal/strconv.uint64pow10", laid_internal_strconv_uint64pow10)] }
def PatchsetAddSaid : Prop := patchsetAddRow.holds Tryz.pinned (OpenSpec.ofChange patchsetAddSpec)

/-- ITS FALSE NEIGHBOUR: 'it returns false'. Refute it at one input. -/
def patchsetAddWrong : ChangeSpec := { name := "patchsetAdd", fn := fun _ => fun
  | [d1, d2] => { results := [.lit (.bool false)], args := [d1, d2] }
  | _ => none }
def PatchsetAddWrongFalsely : Prop := patchsetAddRow.holds Tryz.pinned (OpenSpec.ofChange patchsetAddWrong)

/-- 'quiltlaw17.PatchsetGraph': WHATEVER THE INPUT: true; the input reads as it did. -/
def patchsetGraphSpec : ChangeSpec := { name := "patchsetGraph", fn := fun _ => fun
  | [d1, d2, d3] => { results := [.lit (.bool true)], args := [d1, d2, d3] }
  | _ => none }
def patchsetGraphRow : OpenClaim := { program := "ytddlffkdpocmhaagreatdoor", sum := "4efe112bf3ffe3077123c2cbfeb215c17df611ef9ef5082725f1c9d38aa4b8cd", func := "quilt/quiltlaw17.PatchsetGraph", spec := "patchsetGraph", inPlace := ["internal/bytealg.Compare", "internal/bytealg.IndexByteString", "internal/abi.NoEscape", "slices.overlaps[quilt/api.Stored]"], unfollowed := true, recurses := true, named := ["internal/strconv.uint64pow10", "math/bits.deBruijn32tab", "math/bits.deBruijn64tab"], plainKeys := false, apart := false, laid := [("math/bits.deBruijn32tab", laid_math_bits_deBruijn32tab), ("math/bits.deBruijn64tab", laid_math_bits_deBruijn64tab), ("internal/strconv.uint64pow10", laid_internal_strconv_uint64pow10)] }
def PatchsetGraphSaid : Prop := patchsetGraphRow.holds Tryz.pinned (OpenSpec.ofChange patchsetGraphSpec)

/-- ITS FALSE NEIGHBOUR: 'it returns false'. Refute it at one input. -/
def patchsetGraphWrong : ChangeSpec := { name := "patchsetGraph", fn := fun _ => fun
  | [d1, d2, d3] => { results := [.lit (.bool false)], args := [d1, d2, d3] }
  | _ => none }
def PatchsetGraphWrongFalsely : Prop := patchsetGraphRow.holds Tryz.pinned (OpenSpec.ofChange patchsetGraphWrong)

/-- 'quiltlaw17.PatchsetAdded': WHATEVER THE INPUT: true; the input reads as it did. -/
def patchsetAddedSpec : ChangeSpec := { name := "patchsetAdded", fn := fun _ => fun
  | [d1, d2] => { results := [.lit (.bool true)], args := [d1, d2] }
  | _ => none }
def patchsetAddedRow : OpenClaim := { program := "ytddlffkdpocmhaagreatdoor", sum := "4efe112bf3ffe3077123c2cbfeb215c17df611ef9ef5082725f1c9d38aa4b8cd", func := "quilt/quiltlaw17.PatchsetAdded", spec := "patchsetAdded", inPlace := ["internal/bytealg.Compare", "internal/bytealg.IndexByteString", "internal/abi.NoEscape", "slices.overlaps[quilt/api.Stored]"], unfollowed := true, recurses := true, named := ["internal/strconv.uint64pow10", "math/bits.deBruijn32tab", "math/bits.deBruijn64tab"], plainKeys := false, apart := false, laid := [("math/bits.deBruijn32tab", laid_math_bits_deBruijn32tab), ("math/bits.deBruijn64tab", laid_math_bits_deBruijn64tab), ("internal/strconv.uint64pow10", laid_internal_strconv_uint64pow10)] }
def PatchsetAddedSaid : Prop := patchsetAddedRow.holds Tryz.pinned (OpenSpec.ofChange patchsetAddedSpec)

/-- ITS FALSE NEIGHBOUR: 'it returns false'. Refute it at one input. -/
def patchsetAddedWrong : ChangeSpec := { name := "patchsetAdded", fn := fun _ => fun
  | [d1, d2] => { results := [.lit (.bool false)], args := [d1, d2] }
  | _ => none }
def PatchsetAddedWrongFalsely : Prop := patchsetAddedRow.holds Tryz.pinned (OpenSpec.ofChange patchsetAddedWrong)

/-- 'quiltlaw17.PatchsetClosed': WHATEVER THE INPUT: true; the input reads as it did. -/
def patchsetClosedSpec : ChangeSpec := { name := "patchsetClosed", fn := fun _ => fun
  | [d1, d2] => { results := [.lit (.bool true)], args := [d1, d2] }
  | _ => none }
def patchsetClosedRow : OpenClaim := { program := "ytddlffkdpocmhaagreatdoor", sum := "4efe112bf3ffe3077123c2cbfeb215c17df611ef9ef5082725f1c9d38aa4b8cd", func := "quilt/quiltlaw17.PatchsetClosed", spec := "patchsetClosed", inPlace := ["internal/bytealg.Compare", "internal/bytealg.IndexByteString", "internal/abi.NoEscape", "slices.overlaps[quilt/api.Stored]"], unfollowed := true, recurses := true, named := ["internal/strconv.uint64pow10", "math/bits.deBruijn32tab", "math/bits.deBruijn64tab"], plainKeys := false, apart := false, laid := [("math/bits.deBruijn32tab", laid_math_bits_deBruijn32tab), ("math/bits.deBruijn64tab", laid_math_bits_deBruijn64tab), ("internal/strconv.uint64pow10", laid_internal_strconv_uint64pow10)] }
def PatchsetClosedSaid : Prop := patchsetClosedRow.holds Tryz.pinned (OpenSpec.ofChange patchsetClosedSpec)

/-- ITS FALSE NEIGHBOUR: 'it returns false'. Refute it at one input. -/
def patchsetClosedWrong : ChangeSpec := { name := "patchsetClosed", fn := fun _ => fun
  | [d1, d2] => { results := [.lit (.bool false)], args := [d1, d2] }
  | _ => none }
def PatchsetClosedWrongFalsely : Prop := patchsetClosedRow.holds Tryz.pinned (OpenSpec.ofChange patchsetClosedWrong)

/-- 'quiltlaw17.PatchsetDual': WHATEVER THE INPUT: true; the input reads as it did. -/
def patchsetDualSpec : ChangeSpec := { name := "patchsetDual", fn := fun _ => fun
  | [d1, d2, d3] => { results := [.lit (.bool true)], args := [d1, d2, d3] }
  | _ => none }
def patchsetDualRow : OpenClaim := { program := "ytddlffkdpocmhaagreatdoor", sum := "4efe112bf3ffe3077123c2cbfeb215c17df611ef9ef5082725f1c9d38aa4b8cd", func := "quilt/quiltlaw17.PatchsetDual", spec := "patchsetDual", inPlace := ["internal/bytealg.Compare", "internal/bytealg.IndexByteString", "internal/abi.NoEscape", "slices.overlaps[quilt/api.Stored]"], unfollowed := true, recurses := true, named := ["internal/strconv.uint64pow10", "math/bits.deBruijn32tab", "math/bits.deBruijn64tab"], plainKeys := false, apart := false, laid := [("math/bits.deBruijn32tab", laid_math_bits_deBruijn32tab), ("math/bits.deBruijn64tab", laid_math_bits_deBruijn64tab), ("internal/strconv.uint64pow10", laid_internal_strconv_uint64pow10)] }
def PatchsetDualSaid : Prop := patchsetDualRow.holds Tryz.pinned (OpenSpec.ofChange patchsetDualSpec)

/-- ITS FALSE NEIGHBOUR: 'it returns false'. Refute it at one input. -/
def patchsetDualWrong : ChangeSpec := { name := "patchsetDual", fn := fun _ => fun
  | [d1, d2, d3] => { results := [.lit (.bool false)], args := [d1, d2, d3] }
  | _ => none }
def PatchsetDualWrongFalsely : Prop := patchsetDualRow.holds Tryz.pinned (OpenSpec.ofChange patchsetDualWrong)

/- THE SECOND FORM. 'bulk': how many values and letters a reading holds, each counted each time it is reached (what is shared counts as often as it is met; a slice's spare places count too). A statement '..UptoSaid' is the law's where the arguments, and the package variables that the reading takes, are together of bulk at most 1048576: NARROWER than '..Said'. Prove '..Said' where nothing that the law and all that it calls make is longer than what came in: it says more and counts as full. Else prove '..UptoSaid'. A law counts once. -/
mutual
def uptoBulk {H : Type} : DataW H → Nat
  | .lit (.string bytes) => bytes.length + 1
  | .lit _ => 1
  | .nil => 1
  | .ptr d => uptoBulk d + 1
  | .slice elems spare => uptoBulkAll elems + uptoBulkAll spare + 1
  | .agg parts => uptoBulkAll parts + 1
  | .iface _ d => uptoBulk d + 1
  | .map entries => uptoBulkEntries entries + 1
  | .held _ => 1
def uptoBulkAll {H : Type} : List (DataW H) → Nat
  | [] => 0
  | d :: r => uptoBulk d + uptoBulkAll r
def uptoBulkEntries {H : Type} : List (Lit × DataW H) → Nat
  | [] => 0
  | x :: r => uptoBulkEntry x + uptoBulkEntries r
def uptoBulkEntry {H : Type} : Lit × DataW H → Nat
  | (.string bytes, d) => bytes.length + uptoBulk d + 1
  | (_, d) => uptoBulk d + 1
 end
def uptoSmall : (H : Type) → List (DataW H) → Bool := fun _ ds => decide (uptoBulkAll ds ≤ 1048576)
def OpenSpec.upto (s : _root_.Go.ChangeSpec) : _root_.Go.OpenSpec := { _root_.Go.OpenSpec.ofChange s with cond := some uptoSmall }

/-- 'quiltlaw31.BisectBound', WHERE WHAT IT READS IS OF BULK AT MOST 1048576: true; the input reads as it did. -/
def bisectBoundUptoRow : OpenClaim := { program := "ytddlffkdpocmhaagreatdoor", sum := "4efe112bf3ffe3077123c2cbfeb215c17df611ef9ef5082725f1c9d38aa4b8cd", func := "quilt/quiltlaw31.BisectBound", spec := "bisectBound", inPlace := ["internal/bytealg.Compare", "internal/bytealg.IndexByteString", "internal/abi.NoEscape"], unfollowed := true, recurses := true, named := ["internal/strconv.uint64pow10", "math/bits.deBruijn32tab", "math/bits.deBruijn64tab"], plainKeys := false, apart := false, laid := [("math/bits.deBruijn32tab", laid_math_bits_deBruijn32tab), ("math/bits.deBruijn64tab", laid_math_bits_deBruijn64tab), ("internal/strconv.uint64pow10", laid_internal_strconv_uint64pow10)], narrowed := true }
def BisectBoundUptoSaid : Prop := bisectBoundUptoRow.holds Tryz.pinned (OpenSpec.upto bisectBoundSpec)

/-- 'quiltlaw31.BisectDeepest', WHERE WHAT IT READS IS OF BULK AT MOST 1048576: true; the input reads as it did. -/
def bisectDeepestUptoRow : OpenClaim := { program := "ytddlffkdpocmhaagreatdoor", sum := "4efe112bf3ffe3077123c2cbfeb215c17df611ef9ef5082725f1c9d38aa4b8cd", func := "quilt/quiltlaw31.BisectDeepest", spec := "bisectDeepest", inPlace := ["internal/bytealg.Compare", "internal/bytealg.IndexByteString", "internal/abi.NoEscape"], unfollowed := true, recurses := true, named := ["internal/strconv.uint64pow10", "math/bits.deBruijn32tab", "math/bits.deBruijn64tab"], plainKeys := false, apart := false, laid := [("math/bits.deBruijn32tab", laid_math_bits_deBruijn32tab), ("math/bits.deBruijn64tab", laid_math_bits_deBruijn64tab), ("internal/strconv.uint64pow10", laid_internal_strconv_uint64pow10)], narrowed := true }
def BisectDeepestUptoSaid : Prop := bisectDeepestUptoRow.holds Tryz.pinned (OpenSpec.upto bisectDeepestSpec)

/-- 'quiltlaw31.BisectState', WHERE WHAT IT READS IS OF BULK AT MOST 1048576: true; the input reads as it did. -/
def bisectStateUptoRow : OpenClaim := { program := "ytddlffkdpocmhaagreatdoor", sum := "4efe112bf3ffe3077123c2cbfeb215c17df611ef9ef5082725f1c9d38aa4b8cd", func := "quilt/quiltlaw31.BisectState", spec := "bisectState", inPlace := ["internal/bytealg.Compare", "internal/bytealg.IndexByteString", "internal/abi.NoEscape"], unfollowed := true, recurses := true, named := ["internal/strconv.uint64pow10", "math/bits.deBruijn32tab", "math/bits.deBruijn64tab"], plainKeys := false, apart := false, laid := [("math/bits.deBruijn32tab", laid_math_bits_deBruijn32tab), ("math/bits.deBruijn64tab", laid_math_bits_deBruijn64tab), ("internal/strconv.uint64pow10", laid_internal_strconv_uint64pow10)], narrowed := true }
def BisectStateUptoSaid : Prop := bisectStateUptoRow.holds Tryz.pinned (OpenSpec.upto bisectStateSpec)

/-- 'quiltlaw31.BisectReached', WHERE WHAT IT READS IS OF BULK AT MOST 1048576: true; the input reads as it did. -/
def bisectReachedUptoRow : OpenClaim := { program := "ytddlffkdpocmhaagreatdoor", sum := "4efe112bf3ffe3077123c2cbfeb215c17df611ef9ef5082725f1c9d38aa4b8cd", func := "quilt/quiltlaw31.BisectReached", spec := "bisectReached", inPlace := ["internal/bytealg.Compare", "internal/bytealg.IndexByteString", "internal/abi.NoEscape"], unfollowed := true, recurses := true, named := ["internal/strconv.uint64pow10", "math/bits.deBruijn32tab", "math/bits.deBruijn64tab"], plainKeys := false, apart := false, laid := [("math/bits.deBruijn32tab", laid_math_bits_deBruijn32tab), ("math/bits.deBruijn64tab", laid_math_bits_deBruijn64tab), ("internal/strconv.uint64pow10", laid_internal_strconv_uint64pow10)], narrowed := true }
def BisectReachedUptoSaid : Prop := bisectReachedUptoRow.holds Tryz.pinned (OpenSpec.upto bisectReachedSpec)

/-- 'quiltlaw31.BisectFinds', WHERE WHAT IT READS IS OF BULK AT MOST 1048576: true; the input reads as it did. -/
def bisectFindsUptoRow : OpenClaim := { program := "ytddlffkdpocmhaagreatdoor", sum := "4efe112bf3ffe3077123c2cbfeb215c17df611ef9ef5082725f1c9d38aa4b8cd", func := "quilt/quiltlaw31.BisectFinds", spec := "bisectFinds", inPlace := ["internal/bytealg.Compare", "internal/bytealg.IndexByteString", "internal/abi.NoEscape"], unfollowed := true, recurses := true, named := ["internal/strconv.uint64pow10", "math/bits.deBruijn32tab", "math/bits.deBruijn64tab"], plainKeys := false, apart := false, laid := [("math/bits.deBruijn32tab", laid_math_bits_deBruijn32tab), ("math/bits.deBruijn64tab", laid_math_bits_deBruijn64tab), ("internal/strconv.uint64pow10", laid_internal_strconv_uint64pow10)], narrowed := true }
def BisectFindsUptoSaid : Prop := bisectFindsUptoRow.holds Tryz.pinned (OpenSpec.upto bisectFindsSpec)

/-- 'quiltlaw31.BisectAnswers', WHERE WHAT IT READS IS OF BULK AT MOST 1048576: true; the input reads as it did. -/
def bisectAnswersUptoRow : OpenClaim := { program := "ytddlffkdpocmhaagreatdoor", sum := "4efe112bf3ffe3077123c2cbfeb215c17df611ef9ef5082725f1c9d38aa4b8cd", func := "quilt/quiltlaw31.BisectAnswers", spec := "bisectAnswers", inPlace := ["internal/bytealg.Compare", "internal/bytealg.IndexByteString", "internal/abi.NoEscape"], unfollowed := true, recurses := true, named := ["internal/strconv.uint64pow10", "math/bits.deBruijn32tab", "math/bits.deBruijn64tab"], plainKeys := false, apart := false, laid := [("math/bits.deBruijn32tab", laid_math_bits_deBruijn32tab), ("math/bits.deBruijn64tab", laid_math_bits_deBruijn64tab), ("internal/strconv.uint64pow10", laid_internal_strconv_uint64pow10)], narrowed := true }
def BisectAnswersUptoSaid : Prop := bisectAnswersUptoRow.holds Tryz.pinned (OpenSpec.upto bisectAnswersSpec)

/-- 'quiltlaw17.PatchsetCheck', WHERE WHAT IT READS IS OF BULK AT MOST 1048576: true; the input reads as it did. -/
def patchsetCheckUptoRow : OpenClaim := { program := "ytddlffkdpocmhaagreatdoor", sum := "4efe112bf3ffe3077123c2cbfeb215c17df611ef9ef5082725f1c9d38aa4b8cd", func := "quilt/quiltlaw17.PatchsetCheck", spec := "patchsetCheck", inPlace := ["internal/bytealg.Compare", "internal/bytealg.IndexByteString", "internal/abi.NoEscape", "slices.overlaps[quilt/api.Stored]"], unfollowed := true, recurses := true, named := ["internal/strconv.uint64pow10", "math/bits.deBruijn32tab", "math/bits.deBruijn64tab"], plainKeys := false, apart := false, laid := [("math/bits.deBruijn32tab", laid_math_bits_deBruijn32tab), ("math/bits.deBruijn64tab", laid_math_bits_deBruijn64tab), ("internal/strconv.uint64pow10", laid_internal_strconv_uint64pow10)], narrowed := true }
def PatchsetCheckUptoSaid : Prop := patchsetCheckUptoRow.holds Tryz.pinned (OpenSpec.upto patchsetCheckSpec)

/-- 'quiltlaw17.PatchsetAdd', WHERE WHAT IT READS IS OF BULK AT MOST 1048576: true; the input reads as it did. -/
def patchsetAddUptoRow : OpenClaim := { program := "ytddlffkdpocmhaagreatdoor", sum := "4efe112bf3ffe3077123c2cbfeb215c17df611ef9ef5082725f1c9d38aa4b8cd", func := "quilt/quiltlaw17.PatchsetAdd", spec := "patchsetAdd", inPlace := ["internal/bytealg.Compare", "internal/bytealg.IndexByteString", "internal/abi.NoEscape", "slices.overlaps[quilt/api.Stored]"], unfollowed := true, recurses := true, named := ["internal/strconv.uint64pow10", "math/bits.deBruijn32tab", "math/bits.deBruijn64tab"], plainKeys := false, apart := false, laid := [("math/bits.deBruijn32tab", laid_math_bits_deBruijn32tab), ("math/bits.deBruijn64tab", laid_math_bits_deBruijn64tab), ("internal/strconv.uint64pow10", laid_internal_strconv_uint64pow10)], narrowed := true }
def PatchsetAddUptoSaid : Prop := patchsetAddUptoRow.holds Tryz.pinned (OpenSpec.upto patchsetAddSpec)

/-- 'quiltlaw17.PatchsetGraph', WHERE WHAT IT READS IS OF BULK AT MOST 1048576: true; the input reads as it did. -/
def patchsetGraphUptoRow : OpenClaim := { program := "ytddlffkdpocmhaagreatdoor", sum := "4efe112bf3ffe3077123c2cbfeb215c17df611ef9ef5082725f1c9d38aa4b8cd", func := "quilt/quiltlaw17.PatchsetGraph", spec := "patchsetGraph", inPlace := ["internal/bytealg.Compare", "internal/bytealg.IndexByteString", "internal/abi.NoEscape", "slices.overlaps[quilt/api.Stored]"], unfollowed := true, recurses := true, named := ["internal/strconv.uint64pow10", "math/bits.deBruijn32tab", "math/bits.deBruijn64tab"], plainKeys := false, apart := false, laid := [("math/bits.deBruijn32tab", laid_math_bits_deBruijn32tab), ("math/bits.deBruijn64tab", laid_math_bits_deBruijn64tab), ("internal/strconv.uint64pow10", laid_internal_strconv_uint64pow10)], narrowed := true }
def PatchsetGraphUptoSaid : Prop := patchsetGraphUptoRow.holds Tryz.pinned (OpenSpec.upto patchsetGraphSpec)

/-- 'quiltlaw17.PatchsetAdded', WHERE WHAT IT READS IS OF BULK AT MOST 1048576: true; the input reads as it did. -/
def patchsetAddedUptoRow : OpenClaim := { program := "ytddlffkdpocmhaagreatdoor", sum := "4efe112bf3ffe3077123c2cbfeb215c17df611ef9ef5082725f1c9d38aa4b8cd", func := "quilt/quiltlaw17.PatchsetAdded", spec := "patchsetAdded", inPlace := ["internal/bytealg.Compare", "internal/bytealg.IndexByteString", "internal/abi.NoEscape", "slices.overlaps[quilt/api.Stored]"], unfollowed := true, recurses := true, named := ["internal/strconv.uint64pow10", "math/bits.deBruijn32tab", "math/bits.deBruijn64tab"], plainKeys := false, apart := false, laid := [("math/bits.deBruijn32tab", laid_math_bits_deBruijn32tab), ("math/bits.deBruijn64tab", laid_math_bits_deBruijn64tab), ("internal/strconv.uint64pow10", laid_internal_strconv_uint64pow10)], narrowed := true }
def PatchsetAddedUptoSaid : Prop := patchsetAddedUptoRow.holds Tryz.pinned (OpenSpec.upto patchsetAddedSpec)

/-- 'quiltlaw17.PatchsetClosed', WHERE WHAT IT READS IS OF BULK AT MOST 1048576: true; the input reads as it did. -/
def patchsetClosedUptoRow : OpenClaim := { program := "ytddlffkdpocmhaagreatdoor", sum := "4efe112bf3ffe3077123c2cbfeb215c17df611ef9ef5082725f1c9d38aa4b8cd", func := "quilt/quiltlaw17.PatchsetClosed", spec := "patchsetClosed", inPlace := ["internal/bytealg.Compare", "internal/bytealg.IndexByteString", "internal/abi.NoEscape", "slices.overlaps[quilt/api.Stored]"], unfollowed := true, recurses := true, named := ["internal/strconv.uint64pow10", "math/bits.deBruijn32tab", "math/bits.deBruijn64tab"], plainKeys := false, apart := false, laid := [("math/bits.deBruijn32tab", laid_math_bits_deBruijn32tab), ("math/bits.deBruijn64tab", laid_math_bits_deBruijn64tab), ("internal/strconv.uint64pow10", laid_internal_strconv_uint64pow10)], narrowed := true }
def PatchsetClosedUptoSaid : Prop := patchsetClosedUptoRow.holds Tryz.pinned (OpenSpec.upto patchsetClosedSpec)

/-- 'quiltlaw17.PatchsetDual', WHERE WHAT IT READS IS OF BULK AT MOST 1048576: true; the input reads as it did. -/
def patchsetDualUptoRow : OpenClaim := { program := "ytddlffkdpocmhaagreatdoor", sum := "4efe112bf3ffe3077123c2cbfeb215c17df611ef9ef5082725f1c9d38aa4b8cd", func := "quilt/quiltlaw17.PatchsetDual", spec := "patchsetDual", inPlace := ["internal/bytealg.Compare", "internal/bytealg.IndexByteString", "internal/abi.NoEscape", "slices.overlaps[quilt/api.Stored]"], unfollowed := true, recurses := true, named := ["internal/strconv.uint64pow10", "math/bits.deBruijn32tab", "math/bits.deBruijn64tab"], plainKeys := false, apart := false, laid := [("math/bits.deBruijn32tab", laid_math_bits_deBruijn32tab), ("math/bits.deBruijn64tab", laid_math_bits_deBruijn64tab), ("internal/strconv.uint64pow10", laid_internal_strconv_uint64pow10)], narrowed := true }
def PatchsetDualUptoSaid : Prop := patchsetDualUptoRow.holds Tryz.pinned (OpenSpec.upto patchsetDualSpec)

end Rows
end Go.Proofs.YtddlffkdpocmhaaGreatDoor
