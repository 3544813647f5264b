/-
  NARROWER THAN 'FOR EVERY INPUT', by the rows' own cells (each row's printed sentence says how): PatchsetOrder: laid · PatchsetUnion: laid · PatchsetUnions: laid · PickTwins: laid · PickTwice: laid · PickPick: laid · PickAll: laid · PickAgain: laid · PickSets: laid · PickCommon: laid.
  DERIVED. THE GIVEN ROWS OF THIS SEAT. 10 by the template 'for every input the law returns true; each argument reads behind the call as it read before'; 0 by the template 'total and deterministic' (their statements: YtjmpmjmobbofgaaGreatDoorTotals.lean).
  GIVEN WITH THE SEED: the statements are not yours to turn. If you find one false, say at which input.
  Laid BY PROGRAM, IN A SANDBOX (cutbox-rows.mjs): the forced cells as the released guide's own fill.sh prints them over the translation 2bdca34e5cff15c2… (all of the seat's roots in one cut). By AI agents, Wed Nov 11 2026. No macro, syntax, notation, axiom, sorry.
-/
import Derived.Test.YtjmpmjmobbofgaaGreatDoorChecked
import GoSem.Claim
import GoSem.ClaimJoined
import GoSem.ClaimMapViews
import Derived.JoinedTies
import Derived.KernelRfl
namespace Go.Proofs.YtjmpmjmobbofgaaGreatDoor
/- THE CELL 'sum', in the pinned program and in every row, IS THE sha256 OF THE DUMP (.gsa) THAT YtjmpmjmobbofgaaGreatDoorProg.lean LOADS. Nothing in Lean hashes anything: it is a label: what it is worth is what the hold of that sum in a sandbox is worth. -/
noncomputable def Tryz.pinned : Pinned := { name := "ytjmpmjmobbofgaagreatdoor", sum := "2bdca34e5cff15c2b62ad80046b69c2d0f5753104b8a2d998c566681b3b8e0c9", checked := Tryz.checked }
namespace Rows
def none {H : Type} : Left H := { results := [], args := [] }

/- WHAT THE LISTED PACKAGE-LEVEL VARIABLES READ AS WHEN THE CALL BEGINS. Each datum BY PROGRAM (the guide's laid-datum.mjs) off the statement by which the dump's own 'gosem.cut.vars' lays the variable. In a bare row this is a premise. The card (YtjmpmjmobbofgaaGreatDoorCards.lean) ties it to the program's text. -/
def laid_math_bits_deBruijn32tab {H : Type} : DataW H := .agg [.lit (.int .u8 0), .lit (.int .u8 1), .lit (.int .u8 28), .lit (.int .u8 2), .lit (.int .u8 29), .lit (.int .u8 14), .lit (.int .u8 24), .lit (.int .u8 3), .lit (.int .u8 30), .lit (.int .u8 22), .lit (.int .u8 20), .lit (.int .u8 15), .lit (.int .u8 25), .lit (.int .u8 17), .lit (.int .u8 4), .lit (.int .u8 8), .lit (.int .u8 31), .lit (.int .u8 27), .lit (.int .u8 13), .lit (.int .u8 23), .lit (.int .u8 21), .lit (.int .u8 19), .lit (.int .u8 16), .lit (.int .u8 7), .lit (.int .u8 26), .lit (.int .u8 12), .lit (.int .u8 18), .lit (.int .u8 6), .lit (.int .u8 11), .lit (.int .u8 5), .lit (.int .u8 10), .lit (.int .u8 9)]
def laid_math_bits_deBruijn64tab {H : Type} : DataW H := .agg [.lit (.int .u8 0), .lit (.int .u8 1), .lit (.int .u8 56), .lit (.int .u8 2), .lit (.int .u8 57), .lit (.int .u8 49), .lit (.int .u8 28), .lit (.int .u8 3), .lit (.int .u8 61), .lit (.int .u8 58), .lit (.int .u8 42), .lit (.int .u8 50), .lit (.int .u8 38), .lit (.int .u8 29), .lit (.int .u8 17), .lit (.int .u8 4), .lit (.int .u8 62), .lit (.int .u8 47), .lit (.int .u8 59), .lit (.int .u8 36), .lit (.int .u8 45), .lit (.int .u8 43), .lit (.int .u8 51), .lit (.int .u8 22), .lit (.int .u8 53), .lit (.int .u8 39), .lit (.int .u8 33), .lit (.int .u8 30), .lit (.int .u8 24), .lit (.int .u8 18), .lit (.int .u8 12), .lit (.int .u8 5), .lit (.int .u8 63), .lit (.int .u8 55), .lit (.int .u8 48), .lit (.int .u8 27), .lit (.int .u8 60), .lit (.int .u8 41), .lit (.int .u8 37), .lit (.int .u8 16), .lit (.int .u8 46), .lit (.int .u8 35), .lit (.int .u8 44), .lit (.int .u8 21), .lit (.int .u8 52), .lit (.int .u8 32), .lit (.int .u8 23), .lit (.int .u8 11), .lit (.int .u8 54), .lit (.int .u8 26), .lit (.int .u8 40), .lit (.int .u8 15), .lit (.int .u8 34), .lit (.int .u8 20), .lit (.int .u8 31), .lit (.int .u8 10), .lit (.int .u8 25), .lit (.int .u8 14), .lit (.int .u8 19), .lit (.int .u8 9), .lit (.int .u8 13), .lit (.int .u8 8), .lit (.int .u8 7), .lit (.int .u8 6)]
def laid_internal_strconv_uint64pow10 {H : Type} : DataW H := .agg [.lit (.int .u64 1), .lit (.int .u64 10), .lit (.int .u64 100), .lit (.int .u64 1000), .lit (.int .u64 10000), .lit (.int .u64 100000), .lit (.int .u64 1000000), .lit (.int .u64 10000000), .lit (.int .u64 100000000), .lit (.int .u64 1000000000), .lit (.int .u64 10000000000), .lit (.int .u64 100000000000), .lit (.int .u64 1000000000000), .lit (.int .u64 10000000000000), .lit (.int .u64 100000000000000), .lit (.int .u64 1000000000000000), .lit (.int .u64 10000000000000000), .lit (.int .u64 100000000000000000), .lit (.int .u64 1000000000000000000), .lit (.int .u64 10000000000000000000)]

/-- 'quiltlaw17.PatchsetOrder': WHATEVER THE INPUT: true; the input reads as it did. -/
def patchsetOrderSpec : ChangeSpec := { name := "patchsetOrder", fn := fun _ => fun
  | [d1, d2] => { results := [.lit (.bool true)], args := [d1, d2] }
  | _ => none }
def patchsetOrderRow : OpenClaim := { program := "ytjmpmjmobbofgaagreatdoor", sum := "2bdca34e5cff15c2b62ad80046b69c2d0f5753104b8a2d998c566681b3b8e0c9", func := "quilt/quiltlaw17.PatchsetOrder", spec := "patchsetOrder", inPlace := ["internal/bytealg.Compare", "internal/bytealg.IndexByteString", "internal/abi.NoEscape", "slices.overlaps[quilt/api.Stored]"], unfollowed := true, recurses := true, named := ["internal/strconv.uint64pow10", "math/bits.deBruijn32tab", "math/bits.deBruijn64tab"], plainKeys := false, apart := false, laid := [("math/bits.deBruijn32tab", laid_math_bits_deBruijn32tab), ("math/bits.deBruijn64tab", laid_math_bits_deBruijn64tab), ("internal/strconv.uint64pow10", laid_internal_strconv_uint64pow10)] }
def PatchsetOrderSaid : Prop := patchsetOrderRow.holds Tryz.pinned (OpenSpec.ofChange patchsetOrderSpec)

/-- ITS FALSE NEIGHBOUR: 'it returns false'. Refute it at one input. -/
def patchsetOrderWrong : ChangeSpec := { name := "patchsetOrder", fn := fun _ => fun
  | [d1, d2] => { results := [.lit (.bool false)], args := [d1, d2] }
  | _ => none }
def PatchsetOrderWrongFalsely : Prop := patchsetOrderRow.holds Tryz.pinned (OpenSpec.ofChange patchsetOrderWrong)

/-- 'quiltlaw17.PatchsetUnion': WHATEVER THE INPUT: true; the input reads as it did. -/
def patchsetUnionSpec : ChangeSpec := { name := "patchsetUnion", fn := fun _ => fun
  | [d1, d2] => { results := [.lit (.bool true)], args := [d1, d2] }
  | _ => none }
def patchsetUnionRow : OpenClaim := { program := "ytjmpmjmobbofgaagreatdoor", sum := "2bdca34e5cff15c2b62ad80046b69c2d0f5753104b8a2d998c566681b3b8e0c9", func := "quilt/quiltlaw17.PatchsetUnion", spec := "patchsetUnion", inPlace := ["internal/bytealg.Compare", "internal/bytealg.IndexByteString", "internal/abi.NoEscape", "slices.overlaps[quilt/api.Stored]"], unfollowed := true, recurses := true, named := ["internal/strconv.uint64pow10", "math/bits.deBruijn32tab", "math/bits.deBruijn64tab"], plainKeys := false, apart := false, laid := [("math/bits.deBruijn32tab", laid_math_bits_deBruijn32tab), ("math/bits.deBruijn64tab", laid_math_bits_deBruijn64tab), ("internal/strconv.uint64pow10", laid_internal_strconv_uint64pow10)] }
def PatchsetUnionSaid : Prop := patchsetUnionRow.holds Tryz.pinned (OpenSpec.ofChange patchsetUnionSpec)

/-- ITS FALSE NEIGHBOUR: 'it returns false'. Refute it at one input. -/
def patchsetUnionWrong : ChangeSpec := { name := "patchsetUnion", fn := fun _ => fun
  | [d1, d2] => { results := [.lit (.bool false)], args := [d1, d2] }
  | _ => none }
def PatchsetUnionWrongFalsely : Prop := patchsetUnionRow.holds Tryz.pinned (OpenSpec.ofChange patchsetUnionWrong)

/-- 'quiltlaw17.PatchsetUnions': WHATEVER THE INPUT: true; the input reads as it did. -/
def patchsetUnionsSpec : ChangeSpec := { name := "patchsetUnions", fn := fun _ => fun
  | [d1, d2, d3] => { results := [.lit (.bool true)], args := [d1, d2, d3] }
  | _ => none }
def patchsetUnionsRow : OpenClaim := { program := "ytjmpmjmobbofgaagreatdoor", sum := "2bdca34e5cff15c2b62ad80046b69c2d0f5753104b8a2d998c566681b3b8e0c9", func := "quilt/quiltlaw17.PatchsetUnions", spec := "patchsetUnions", inPlace := ["internal/bytealg.Compare", "internal/bytealg.IndexByteString", "internal/abi.NoEscape", "slices.overlaps[quilt/api.Stored]"], unfollowed := true, recurses := true, named := ["internal/strconv.uint64pow10", "math/bits.deBruijn32tab", "math/bits.deBruijn64tab"], plainKeys := false, apart := false, laid := [("math/bits.deBruijn32tab", laid_math_bits_deBruijn32tab), ("math/bits.deBruijn64tab", laid_math_bits_deBruijn64tab), ("internal/strconv.uint64pow10", laid_internal_strconv_uint64pow10)] }
def PatchsetUnionsSaid : Prop := patchsetUnionsRow.holds Tryz.pinned (OpenSpec.ofChange patchsetUnionsSpec)

/-- ITS FALSE NEIGHBOUR: 'it returns false'. Refute it at one input. -/
def patchsetUnionsWrong : ChangeSpec := { name := "patchsetUnions", fn := fun _ => fun
  | [d1, d2, d3] => { results := [.lit (.bool false)], args := [d1, d2, d3] }
  | _ => none }
def PatchsetUnionsWrongFalsely : Prop := patchsetUnionsRow.holds Tryz.pinned (OpenSpec.ofChange patchsetUnionsWrong)

/-- 'quiltlaw37.PickTwins': WHATEVER THE INPUT: true; the input reads as it did. -/
def pickTwinsSpec : ChangeSpec := { name := "pickTwins", fn := fun _ => fun
  | [d] => { results := [.lit (.bool true)], args := [d] }
  | _ => none }
def pickTwinsRow : OpenClaim := { program := "ytjmpmjmobbofgaagreatdoor", sum := "2bdca34e5cff15c2b62ad80046b69c2d0f5753104b8a2d998c566681b3b8e0c9", func := "quilt/quiltlaw37.PickTwins", spec := "pickTwins", inPlace := ["internal/bytealg.Compare", "internal/bytealg.IndexByteString", "internal/abi.NoEscape", "slices.overlaps[quilt/api.Stored]"], unfollowed := true, recurses := true, named := ["internal/strconv.uint64pow10", "math/bits.deBruijn32tab", "math/bits.deBruijn64tab"], plainKeys := false, apart := false, laid := [("math/bits.deBruijn32tab", laid_math_bits_deBruijn32tab), ("math/bits.deBruijn64tab", laid_math_bits_deBruijn64tab), ("internal/strconv.uint64pow10", laid_internal_strconv_uint64pow10)] }
def PickTwinsSaid : Prop := pickTwinsRow.holds Tryz.pinned (OpenSpec.ofChange pickTwinsSpec)

/-- ITS FALSE NEIGHBOUR: 'it returns false'. Refute it at one input. -/
def pickTwinsWrong : ChangeSpec := { name := "pickTwins", fn := fun _ => fun
  | [d] => { results := [.lit (.bool false)], args := [d] }
  | _ => none }
def PickTwinsWrongFalsely : Prop := pickTwinsRow.holds Tryz.pinned (OpenSpec.ofChange pickTwinsWrong)

/-- 'quiltlaw37.PickTwice': WHATEVER THE INPUT: true; the input reads as it did. -/
def pickTwiceSpec : ChangeSpec := { name := "pickTwice", fn := fun _ => fun
  | [d1, d2, d3] => { results := [.lit (.bool true)], args := [d1, d2, d3] }
  | _ => none }
def pickTwiceRow : OpenClaim := { program := "ytjmpmjmobbofgaagreatdoor", sum := "2bdca34e5cff15c2b62ad80046b69c2d0f5753104b8a2d998c566681b3b8e0c9", func := "quilt/quiltlaw37.PickTwice", spec := "pickTwice", inPlace := ["internal/bytealg.Compare", "internal/bytealg.IndexByteString", "internal/abi.NoEscape", "slices.overlaps[quilt/api.Stored]"], unfollowed := true, recurses := true, named := ["internal/strconv.uint64pow10", "math/bits.deBruijn32tab", "math/bits.deBruijn64tab"], plainKeys := false, apart := false, laid := [("math/bits.deBruijn32tab", laid_math_bits_deBruijn32tab), ("math/bits.deBruijn64tab", laid_math_bits_deBruijn64tab), ("internal/strconv.uint64pow10", laid_internal_strconv_uint64pow10)] }
def PickTwiceSaid : Prop := pickTwiceRow.holds Tryz.pinned (OpenSpec.ofChange pickTwiceSpec)

/-- ITS FALSE NEIGHBOUR: 'it returns false'. Refute it at one input. -/
def pickTwiceWrong : ChangeSpec := { name := "pickTwice", fn := fun _ => fun
  | [d1, d2, d3] => { results := [.lit (.bool false)], args := [d1, d2, d3] }
  | _ => none }
def PickTwiceWrongFalsely : Prop := pickTwiceRow.holds Tryz.pinned (OpenSpec.ofChange pickTwiceWrong)

/-- 'quiltlaw37.PickPick': WHATEVER THE INPUT: true; the input reads as it did. -/
def pickPickSpec : ChangeSpec := { name := "pickPick", fn := fun _ => fun
  | [d1, d2, d3] => { results := [.lit (.bool true)], args := [d1, d2, d3] }
  | _ => none }
def pickPickRow : OpenClaim := { program := "ytjmpmjmobbofgaagreatdoor", sum := "2bdca34e5cff15c2b62ad80046b69c2d0f5753104b8a2d998c566681b3b8e0c9", func := "quilt/quiltlaw37.PickPick", spec := "pickPick", inPlace := ["internal/bytealg.Compare", "internal/bytealg.IndexByteString", "internal/abi.NoEscape", "slices.overlaps[quilt/api.Stored]"], unfollowed := true, recurses := true, named := ["internal/strconv.uint64pow10", "math/bits.deBruijn32tab", "math/bits.deBruijn64tab"], plainKeys := false, apart := false, laid := [("math/bits.deBruijn32tab", laid_math_bits_deBruijn32tab), ("math/bits.deBruijn64tab", laid_math_bits_deBruijn64tab), ("internal/strconv.uint64pow10", laid_internal_strconv_uint64pow10)] }
def PickPickSaid : Prop := pickPickRow.holds Tryz.pinned (OpenSpec.ofChange pickPickSpec)

/-- ITS FALSE NEIGHBOUR: 'it returns false'. Refute it at one input. -/
def pickPickWrong : ChangeSpec := { name := "pickPick", fn := fun _ => fun
  | [d1, d2, d3] => { results := [.lit (.bool false)], args := [d1, d2, d3] }
  | _ => none }
def PickPickWrongFalsely : Prop := pickPickRow.holds Tryz.pinned (OpenSpec.ofChange pickPickWrong)

/-- 'quiltlaw37.PickAll': WHATEVER THE INPUT: true; the input reads as it did. -/
def pickAllSpec : ChangeSpec := { name := "pickAll", fn := fun _ => fun
  | [d1, d2] => { results := [.lit (.bool true)], args := [d1, d2] }
  | _ => none }
def pickAllRow : OpenClaim := { program := "ytjmpmjmobbofgaagreatdoor", sum := "2bdca34e5cff15c2b62ad80046b69c2d0f5753104b8a2d998c566681b3b8e0c9", func := "quilt/quiltlaw37.PickAll", spec := "pickAll", inPlace := ["internal/bytealg.Compare", "internal/bytealg.IndexByteString", "internal/abi.NoEscape", "slices.overlaps[quilt/api.Stored]"], unfollowed := true, recurses := true, named := ["internal/strconv.uint64pow10", "math/bits.deBruijn32tab", "math/bits.deBruijn64tab"], plainKeys := false, apart := false, laid := [("math/bits.deBruijn32tab", laid_math_bits_deBruijn32tab), ("math/bits.deBruijn64tab", laid_math_bits_deBruijn64tab), ("internal/strconv.uint64pow10", laid_internal_strconv_uint64pow10)] }
def PickAllSaid : Prop := pickAllRow.holds Tryz.pinned (OpenSpec.ofChange pickAllSpec)

/-- ITS FALSE NEIGHBOUR: 'it returns false'. Refute it at one input. -/
def pickAllWrong : ChangeSpec := { name := "pickAll", fn := fun _ => fun
  | [d1, d2] => { results := [.lit (.bool false)], args := [d1, d2] }
  | _ => none }
def PickAllWrongFalsely : Prop := pickAllRow.holds Tryz.pinned (OpenSpec.ofChange pickAllWrong)

/-- 'quiltlaw37.PickAgain': WHATEVER THE INPUT: true; the input reads as it did. -/
def pickAgainSpec : ChangeSpec := { name := "pickAgain", fn := fun _ => fun
  | [d1, d2, d3] => { results := [.lit (.bool true)], args := [d1, d2, d3] }
  | _ => none }
def pickAgainRow : OpenClaim := { program := "ytjmpmjmobbofgaagreatdoor", sum := "2bdca34e5cff15c2b62ad80046b69c2d0f5753104b8a2d998c566681b3b8e0c9", func := "quilt/quiltlaw37.PickAgain", spec := "pickAgain", inPlace := ["internal/bytealg.Compare", "internal/bytealg.IndexByteString", "internal/abi.NoEscape", "slices.overlaps[quilt/api.Stored]"], unfollowed := true, recurses := true, named := ["internal/strconv.uint64pow10", "math/bits.deBruijn32tab", "math/bits.deBruijn64tab"], plainKeys := false, apart := false, laid := [("math/bits.deBruijn32tab", laid_math_bits_deBruijn32tab), ("math/bits.deBruijn64tab", laid_math_bits_deBruijn64tab), ("internal/strconv.uint64pow10", laid_internal_strconv_uint64pow10)] }
def PickAgainSaid : Prop := pickAgainRow.holds Tryz.pinned (OpenSpec.ofChange pickAgainSpec)

/-- ITS FALSE NEIGHBOUR: 'it returns false'. Refute it at one input. -/
def pickAgainWrong : ChangeSpec := { name := "pickAgain", fn := fun _ => fun
  | [d1, d2, d3] => { results := [.lit (.bool false)], args := [d1, d2, d3] }
  | _ => none }
def PickAgainWrongFalsely : Prop := pickAgainRow.holds Tryz.pinned (OpenSpec.ofChange pickAgainWrong)

/-- 'quiltlaw37.PickSets': WHATEVER THE INPUT: true; the input reads as it did. -/
def pickSetsSpec : ChangeSpec := { name := "pickSets", fn := fun _ => fun
  | [d1, d2, d3] => { results := [.lit (.bool true)], args := [d1, d2, d3] }
  | _ => none }
def pickSetsRow : OpenClaim := { program := "ytjmpmjmobbofgaagreatdoor", sum := "2bdca34e5cff15c2b62ad80046b69c2d0f5753104b8a2d998c566681b3b8e0c9", func := "quilt/quiltlaw37.PickSets", spec := "pickSets", inPlace := ["internal/bytealg.Compare", "internal/bytealg.IndexByteString", "internal/abi.NoEscape", "slices.overlaps[quilt/api.Stored]"], unfollowed := true, recurses := true, named := ["internal/strconv.uint64pow10", "math/bits.deBruijn32tab", "math/bits.deBruijn64tab"], plainKeys := false, apart := false, laid := [("math/bits.deBruijn32tab", laid_math_bits_deBruijn32tab), ("math/bits.deBruijn64tab", laid_math_bits_deBruijn64tab), ("internal/strconv.uint64pow10", laid_internal_strconv_uint64pow10)] }
def PickSetsSaid : Prop := pickSetsRow.holds Tryz.pinned (OpenSpec.ofChange pickSetsSpec)

/-- ITS FALSE NEIGHBOUR: 'it returns false'. Refute it at one input. -/
def pickSetsWrong : ChangeSpec := { name := "pickSets", fn := fun _ => fun
  | [d1, d2, d3] => { results := [.lit (.bool false)], args := [d1, d2, d3] }
  | _ => none }
def PickSetsWrongFalsely : Prop := pickSetsRow.holds Tryz.pinned (OpenSpec.ofChange pickSetsWrong)

/-- 'quiltlaw37.PickCommon': WHATEVER THE INPUT: true; the input reads as it did. -/
def pickCommonSpec : ChangeSpec := { name := "pickCommon", fn := fun _ => fun
  | [d1, d2] => { results := [.lit (.bool true)], args := [d1, d2] }
  | _ => none }
def pickCommonRow : OpenClaim := { program := "ytjmpmjmobbofgaagreatdoor", sum := "2bdca34e5cff15c2b62ad80046b69c2d0f5753104b8a2d998c566681b3b8e0c9", func := "quilt/quiltlaw37.PickCommon", spec := "pickCommon", inPlace := ["internal/bytealg.Compare", "internal/bytealg.IndexByteString", "internal/abi.NoEscape", "slices.overlaps[quilt/api.Stored]"], unfollowed := true, recurses := true, named := ["internal/strconv.uint64pow10", "math/bits.deBruijn32tab", "math/bits.deBruijn64tab"], plainKeys := false, apart := false, laid := [("math/bits.deBruijn32tab", laid_math_bits_deBruijn32tab), ("math/bits.deBruijn64tab", laid_math_bits_deBruijn64tab), ("internal/strconv.uint64pow10", laid_internal_strconv_uint64pow10)] }
def PickCommonSaid : Prop := pickCommonRow.holds Tryz.pinned (OpenSpec.ofChange pickCommonSpec)

/-- ITS FALSE NEIGHBOUR: 'it returns false'. Refute it at one input. -/
def pickCommonWrong : ChangeSpec := { name := "pickCommon", fn := fun _ => fun
  | [d1, d2] => { results := [.lit (.bool false)], args := [d1, d2] }
  | _ => none }
def PickCommonWrongFalsely : Prop := pickCommonRow.holds Tryz.pinned (OpenSpec.ofChange pickCommonWrong)

/- THE SECOND FORM. 'bulk': how many values and letters a reading holds, each counted each time it is reached (what is shared counts as often as it is met; a slice's spare places count too). A statement '..UptoSaid' is the law's where the arguments, and the package variables that the reading takes, are together of bulk at most 1048576: NARROWER than '..Said'. Prove '..Said' where nothing that the law and all that it calls make is longer than what came in: it says more and counts as full. Else prove '..UptoSaid'. A law counts once. -/
mutual
def uptoBulk {H : Type} : DataW H → Nat
  | .lit (.string bytes) => bytes.length + 1
  | .lit _ => 1
  | .nil => 1
  | .ptr d => uptoBulk d + 1
  | .slice elems spare => uptoBulkAll elems + uptoBulkAll spare + 1
  | .agg parts => uptoBulkAll parts + 1
  | .iface _ d => uptoBulk d + 1
  | .map entries => uptoBulkEntries entries + 1
  | .held _ => 1
def uptoBulkAll {H : Type} : List (DataW H) → Nat
  | [] => 0
  | d :: r => uptoBulk d + uptoBulkAll r
def uptoBulkEntries {H : Type} : List (Lit × DataW H) → Nat
  | [] => 0
  | x :: r => uptoBulkEntry x + uptoBulkEntries r
def uptoBulkEntry {H : Type} : Lit × DataW H → Nat
  | (.string bytes, d) => bytes.length + uptoBulk d + 1
  | (_, d) => uptoBulk d + 1
 end
def uptoSmall : (H : Type) → List (DataW H) → Bool := fun _ ds => decide (uptoBulkAll ds ≤ 1048576)
def OpenSpec.upto (s : _root_.Go.ChangeSpec) : _root_.Go.OpenSpec := { _root_.Go.OpenSpec.ofChange s with cond := some uptoSmall }

/-- 'quiltlaw17.PatchsetOrder', WHERE WHAT IT READS IS OF BULK AT MOST 1048576: true; the input reads as it did. -/
def patchsetOrderUptoRow : OpenClaim := { program := "ytjmpmjmobbofgaagreatdoor", sum := "2bdca34e5cff15c2b62ad80046b69c2d0f5753104b8a2d998c566681b3b8e0c9", func := "quilt/quiltlaw17.PatchsetOrder", spec := "patchsetOrder", inPlace := ["internal/bytealg.Compare", "internal/bytealg.IndexByteString", "internal/abi.NoEscape", "slices.overlaps[quilt/api.Stored]"], unfollowed := true, recurses := true, named := ["internal/strconv.uint64pow10", "math/bits.deBruijn32tab", "math/bits.deBruijn64tab"], plainKeys := false, apart := false, laid := [("math/bits.deBruijn32tab", laid_math_bits_deBruijn32tab), ("math/bits.deBruijn64tab", laid_math_bits_deBruijn64tab), ("internal/strconv.uint64pow10", laid_internal_strconv_uint64pow10)], narrowed := true }
def PatchsetOrderUptoSaid : Prop := patchsetOrderUptoRow.holds Tryz.pinned (OpenSpec.upto patchsetOrderSpec)

/-- 'quiltlaw17.PatchsetUnion', WHERE WHAT IT READS IS OF BULK AT MOST 1048576: true; the input reads as it did. -/
def patchsetUnionUptoRow : OpenClaim := { program := "ytjmpmjmobbofgaagreatdoor", sum := "2bdca34e5cff15c2b62ad80046b69c2d0f5753104b8a2d998c566681b3b8e0c9", func := "quilt/quiltlaw17.PatchsetUnion", spec := "patchsetUnion", inPlace := ["internal/bytealg.Compare", "internal/bytealg.IndexByteString", "internal/abi.NoEscape", "slices.overlaps[quilt/api.Stored]"], unfollowed := true, recurses := true, named := ["internal/strconv.uint64pow10", "math/bits.deBruijn32tab", "math/bits.deBruijn64tab"], plainKeys := false, apart := false, laid := [("math/bits.deBruijn32tab", laid_math_bits_deBruijn32tab), ("math/bits.deBruijn64tab", laid_math_bits_deBruijn64tab), ("internal/strconv.uint64pow10", laid_internal_strconv_uint64pow10)], narrowed := true }
def PatchsetUnionUptoSaid : Prop := patchsetUnionUptoRow.holds Tryz.pinned (OpenSpec.upto patchsetUnionSpec)

/-- 'quiltlaw17.PatchsetUnions', WHERE WHAT IT READS IS OF BULK AT MOST 1048576: true; the input reads as it did. -/
def patchsetUnionsUptoRow : OpenClaim := { program := "ytjmpmjmobbofgaagreatdoor", sum := "2bdca34e5cff15c2b62ad80046b69c2d0f5753104b8a2d998c566681b3b8e0c9", func := "quilt/quiltlaw17.PatchsetUnions", spec := "patchsetUnions", inPlace := ["internal/bytealg.Compare", "internal/bytealg.IndexByteString", "internal/abi.NoEscape", "slices.overlaps[quilt/api.Stored]"], unfollowed := true, recurses := true, named := ["internal/strconv.uint64pow10", "math/bits.deBruijn32tab", "math/bits.deBruijn64tab"], plainKeys := false, apart := false, laid := [("math/bits.deBruijn32tab", laid_math_bits_deBruijn32tab), ("math/bits.deBruijn64tab", laid_math_bits_deBruijn64tab), ("internal/strconv.uint64pow10", laid_internal_strconv_uint64pow10)], narrowed := true }
def PatchsetUnionsUptoSaid : Prop := patchsetUnionsUptoRow.holds Tryz.pinned (OpenSpec.upto patchsetUnionsSpec)

/-- 'quiltlaw37.PickTwins', WHERE WHAT IT READS IS OF BULK AT MOST 1048576: true; the input reads as it did. -/
def pickTwinsUptoRow : OpenClaim := { program := "ytjmpmjmobbofgaagreatdoor", sum := "2bdca34e5cff15c2b62ad80046b69c2d0f5753104b8a2d998c566681b3b8e0c9", func := "quilt/quiltlaw37.PickTwins", spec := "pickTwins", inPlace := ["internal/bytealg.Compare", "internal/bytealg.IndexByteString", "internal/abi.NoEscape", "slices.overlaps[quilt/api.Stored]"], unfollowed := true, recurses := true, named := ["internal/strconv.uint64pow10", "math/bits.deBruijn32tab", "math/bits.deBruijn64tab"], plainKeys := false, apart := false, laid := [("math/bits.deBruijn32tab", laid_math_bits_deBruijn32tab), ("math/bits.deBruijn64tab", laid_math_bits_deBruijn64tab), ("internal/strconv.uint64pow10", laid_internal_strconv_uint64pow10)], narrowed := true }
def PickTwinsUptoSaid : Prop := pickTwinsUptoRow.holds Tryz.pinned (OpenSpec.upto pickTwinsSpec)

/-- 'quiltlaw37.PickTwice', WHERE WHAT IT READS IS OF BULK AT MOST 1048576: true; the input reads as it did. -/
def pickTwiceUptoRow : OpenClaim := { program := "ytjmpmjmobbofgaagreatdoor", sum := "2bdca34e5cff15c2b62ad80046b69c2d0f5753104b8a2d998c566681b3b8e0c9", func := "quilt/quiltlaw37.PickTwice", spec := "pickTwice", inPlace := ["internal/bytealg.Compare", "internal/bytealg.IndexByteString", "internal/abi.NoEscape", "slices.overlaps[quilt/api.Stored]"], unfollowed := true, recurses := true, named := ["internal/strconv.uint64pow10", "math/bits.deBruijn32tab", "math/bits.deBruijn64tab"], plainKeys := false, apart := false, laid := [("math/bits.deBruijn32tab", laid_math_bits_deBruijn32tab), ("math/bits.deBruijn64tab", laid_math_bits_deBruijn64tab), ("internal/strconv.uint64pow10", laid_internal_strconv_uint64pow10)], narrowed := true }
def PickTwiceUptoSaid : Prop := pickTwiceUptoRow.holds Tryz.pinned (OpenSpec.upto pickTwiceSpec)

/-- 'quiltlaw37.PickPick', WHERE WHAT IT READS IS OF BULK AT MOST 1048576: true; the input reads as it did. -/
def pickPickUptoRow : OpenClaim := { program := "ytjmpmjmobbofgaagreatdoor", sum := "2bdca34e5cff15c2b62ad80046b69c2d0f5753104b8a2d998c566681b3b8e0c9", func := "quilt/quiltlaw37.PickPick", spec := "pickPick", inPlace := ["internal/bytealg.Compare", "internal/bytealg.IndexByteString", "internal/abi.NoEscape", "slices.overlaps[quilt/api.Stored]"], unfollowed := true, recurses := true, named := ["internal/strconv.uint64pow10", "math/bits.deBruijn32tab", "math/bits.deBruijn64tab"], plainKeys := false, apart := false, laid := [("math/bits.deBruijn32tab", laid_math_bits_deBruijn32tab), ("math/bits.deBruijn64tab", laid_math_bits_deBruijn64tab), ("internal/strconv.uint64pow10", laid_internal_strconv_uint64pow10)], narrowed := true }
def PickPickUptoSaid : Prop := pickPickUptoRow.holds Tryz.pinned (OpenSpec.upto pickPickSpec)

/-- 'quiltlaw37.PickAll', WHERE WHAT IT READS IS OF BULK AT MOST 1048576: true; the input reads as it did. -/
def pickAllUptoRow : OpenClaim := { program := "ytjmpmjmobbofgaagreatdoor", sum := "2bdca34e5cff15c2b62ad80046b69c2d0f5753104b8a2d998c566681b3b8e0c9", func := "quilt/quiltlaw37.PickAll", spec := "pickAll", inPlace := ["internal/bytealg.Compare", "internal/bytealg.IndexByteString", "internal/abi.NoEscape", "slices.overlaps[quilt/api.Stored]"], unfollowed := true, recurses := true, named := ["internal/strconv.uint64pow10", "math/bits.deBruijn32tab", "math/bits.deBruijn64tab"], plainKeys := false, apart := false, laid := [("math/bits.deBruijn32tab", laid_math_bits_deBruijn32tab), ("math/bits.deBruijn64tab", laid_math_bits_deBruijn64tab), ("internal/strconv.uint64pow10", laid_internal_strconv_uint64pow10)], narrowed := true }
def PickAllUptoSaid : Prop := pickAllUptoRow.holds Tryz.pinned (OpenSpec.upto pickAllSpec)

/-- 'quiltlaw37.PickAgain', WHERE WHAT IT READS IS OF BULK AT MOST 1048576: true; the input reads as it did. -/
def pickAgainUptoRow : OpenClaim := { program := "ytjmpmjmobbofgaagreatdoor", sum := "2bdca34e5cff15c2b62ad80046b69c2d0f5753104b8a2d998c566681b3b8e0c9", func := "quilt/quiltlaw37.PickAgain", spec := "pickAgain", inPlace := ["internal/bytealg.Compare", "internal/bytealg.IndexByteString", "internal/abi.NoEscape", "slices.overlaps[quilt/api.Stored]"], unfollowed := true, recurses := true, named := ["internal/strconv.uint64pow10", "math/bits.deBruijn32tab", "math/bits.deBruijn64tab"], plainKeys := false, apart := false, laid := [("math/bits.deBruijn32tab", laid_math_bits_deBruijn32tab), ("math/bits.deBruijn64tab", laid_math_bits_deBruijn64tab), ("internal/strconv.uint64pow10", laid_internal_strconv_uint64pow10)], narrowed := true }
def PickAgainUptoSaid : Prop := pickAgainUptoRow.holds Tryz.pinned (OpenSpec.upto pickAgainSpec)

/-- 'quiltlaw37.PickSets', WHERE WHAT IT READS IS OF BULK AT MOST 1048576: true; the input reads as it did. -/
def pickSetsUptoRow : OpenClaim := { program := "ytjmpmjmobbofgaagreatdoor", sum := "2bdca34e5cff15c2b62ad80046b69c2d0f5753104b8a2d998c566681b3b8e0c9", func := "quilt/quiltlaw37.PickSets", spec := "pickSets", inPlace := ["internal/bytealg.Compare", "internal/bytealg.IndexByteString", "internal/abi.NoEscape", "slices.overlaps[quilt/api.Stored]"], unfollowed := true, recurses := true, named := ["internal/strconv.uint64pow10", "math/bits.deBruijn32tab", "math/bits.deBruijn64tab"], plainKeys := false, apart := false, laid := [("math/bits.deBruijn32tab", laid_math_bits_deBruijn32tab), ("math/bits.deBruijn64tab", laid_math_bits_deBruijn64tab), ("internal/strconv.uint64pow10", laid_internal_strconv_uint64pow10)], narrowed := true }
def PickSetsUptoSaid : Prop := pickSetsUptoRow.holds Tryz.pinned (OpenSpec.upto pickSetsSpec)

/-- 'quiltlaw37.PickCommon', WHERE WHAT IT READS IS OF BULK AT MOST 1048576: true; the input reads as it did. -/
def pickCommonUptoRow : OpenClaim := { program := "ytjmpmjmobbofgaagreatdoor", sum := "2bdca34e5cff15c2b62ad80046b69c2d0f5753104b8a2d998c566681b3b8e0c9", func := "quilt/quiltlaw37.PickCommon", spec := "pickCommon", inPlace := ["internal/bytealg.Compare", "internal/bytealg.IndexByteString", "internal/abi.NoEscape", "slices.overlaps[quilt/api.Stored]"], unfollowed := true, recurses := true, named := ["internal/strconv.uint64pow10", "math/bits.deBruijn32tab", "math/bits.deBruijn64tab"], plainKeys := false, apart := false, laid := [("math/bits.deBruijn32tab", laid_math_bits_deBruijn32tab), ("math/bits.deBruijn64tab", laid_math_bits_deBruijn64tab), ("internal/strconv.uint64pow10", laid_internal_strconv_uint64pow10)], narrowed := true }
def PickCommonUptoSaid : Prop := pickCommonUptoRow.holds Tryz.pinned (OpenSpec.upto pickCommonSpec)

end Rows
end Go.Proofs.YtjmpmjmobbofgaaGreatDoor
