/-
  NARROWER THAN 'FOR EVERY INPUT', by the rows' own cells (each row's printed sentence says how): RepoCheck: laid · RepoCollects: laid · RepoChange: laid · RepoMerges: laid · RepoNames: laid · RepoValid: laid · RepoIndependent: laid · RepoShares: laid · RepoTags: laid.
  DERIVED. THE GIVEN ROWS OF THIS SEAT. 9 by the template 'for every input the law returns true; each argument reads behind the call as it read before'; 0 by the template 'total and deterministic' (their statements: YtpebdiofdfpooaaGreatDoorTotals.lean).
  GIVEN WITH THE SEED: the statements are not yours to turn. If you find one false, say at which input.
  Laid BY PROGRAM, IN A SANDBOX (cutbox-rows.mjs): the forced cells as the released guide's own fill.sh prints them over the translation dfb0db378bc553e2… (all of the seat's roots in one cut). By AI agents, Wed Nov 11 2026. No macro, syntax, notation, axiom, sorry.
-/
import Derived.Test.YtpebdiofdfpooaaGreatDoorChecked
import GoSem.Claim
import GoSem.ClaimJoined
import GoSem.ClaimMapViews
import Derived.JoinedTies
import Derived.KernelRfl
namespace Go.Proofs.YtpebdiofdfpooaaGreatDoor
/- THE CELL 'sum', in the pinned program and in every row, IS THE sha256 OF THE DUMP (.gsa) THAT YtpebdiofdfpooaaGreatDoorProg.lean LOADS. Nothing in Lean hashes anything: it is a label: what it is worth is what the hold of that sum in a sandbox is worth. -/
noncomputable def Tryz.pinned : Pinned := { name := "ytpebdiofdfpooaagreatdoor", sum := "dfb0db378bc553e2575494ab799612af9bda93574ef2d38f1fde7cb0b7630087", checked := Tryz.checked }
namespace Rows
def none {H : Type} : Left H := { results := [], args := [] }

/- WHAT THE LISTED PACKAGE-LEVEL VARIABLES READ AS WHEN THE CALL BEGINS. Each datum BY PROGRAM (the guide's laid-datum.mjs) off the statement by which the dump's own 'gosem.cut.vars' lays the variable. In a bare row this is a premise. The card (YtpebdiofdfpooaaGreatDoorCards.lean) ties it to the program's text. -/
def laid_math_bits_deBruijn32tab {H : Type} : DataW H := .agg [.lit (.int .u8 0), .lit (.int .u8 1), .lit (.int .u8 28), .lit (.int .u8 2), .lit (.int .u8 29), .lit (.int .u8 14), .lit (.int .u8 24), .lit (.int .u8 3), .lit (.int .u8 30), .lit (.int .u8 22), .lit (.int .u8 20), .lit (.int .u8 15), .lit (.int .u8 25), .lit (.int .u8 17), .lit (.int .u8 4), .lit (.int .u8 8), .lit (.int .u8 31), .lit (.int .u8 27), .lit (.int .u8 13), .lit (.int .u8 23), .lit (.int .u8 21), .lit (.int .u8 19), .lit (.int .u8 16), .lit (.int .u8 7), .lit (.int .u8 26), .lit (.int .u8 12), .lit (.int .u8 18), .lit (.int .u8 6), .lit (.int .u8 11), .lit (.int .u8 5), .lit (.int .u8 10), .lit (.int .u8 9)]
def laid_math_bits_deBruijn64tab {H : Type} : DataW H := .agg [.lit (.int .u8 0), .lit (.int .u8 1), .lit (.int .u8 56), .lit (.int .u8 2), .lit (.int .u8 57), .lit (.int .u8 49), .lit (.int .u8 28), .lit (.int .u8 3), .lit (.int .u8 61), .lit (.int .u8 58), .lit (.int .u8 42), .lit (.int .u8 50), .lit (.int .u8 38), .lit (.int .u8 29), .lit (.int .u8 17), .lit (.int .u8 4), .lit (.int .u8 62), .lit (.int .u8 47), .lit (.int .u8 59), .lit (.int .u8 36), .lit (.int .u8 45), .lit (.int .u8 43), .lit (.int .u8 51), .lit (.int .u8 22), .lit (.int .u8 53), .lit (.int .u8 39), .lit (.int .u8 33), .lit (.int .u8 30), .lit (.int .u8 24), .lit (.int .u8 18), .lit (.int .u8 12), .lit (.int .u8 5), .lit (.int .u8 63), .lit (.int .u8 55), .lit (.int .u8 48), .lit (.int .u8 27), .lit (.int .u8 60), .lit (.int .u8 41), .lit (.int .u8 37), .lit (.int .u8 16), .lit (.int .u8 46), .lit (.int .u8 35), .lit (.int .u8 44), .lit (.int .u8 21), .lit (.int .u8 52), .lit (.int .u8 32), .lit (.int .u8 23), .lit (.int .u8 11), .lit (.int .u8 54), .lit (.int .u8 26), .lit (.int .u8 40), .lit (.int .u8 15), .lit (.int .u8 34), .lit (.int .u8 20), .lit (.int .u8 31), .lit (.int .u8 10), .lit (.int .u8 25), .lit (.int .u8 14), .lit (.int .u8 19), .lit (.int .u8 9), .lit (.int .u8 13), .lit (.int .u8 8), .lit (.int .u8 7), .lit (.int .u8 6)]
def laid_internal_strconv_uint64pow10 {H : Type} : DataW H := .agg [.lit (.int .u64 1), .lit (.int .u64 10), .lit (.int .u64 100), .lit (.int .u64 1000), .lit (.int .u64 10000), .lit (.int .u64 100000), .lit (.int .u64 1000000), .lit (.int .u64 10000000), .lit (.int .u64 100000000), .lit (.int .u64 1000000000), .lit (.int .u64 10000000000), .lit (.int .u64 100000000000), .lit (.int .u64 1000000000000), .lit (.int .u64 10000000000000), .lit (.int .u64 100000000000000), .lit (.int .u64 1000000000000000), .lit (.int .u64 10000000000000000), .lit (.int .u64 100000000000000000), .lit (.int .u64 1000000000000000000), .lit (.int .u64 10000000000000000000)]

/-- 'quiltlaw36.RepoCheck': WHATEVER THE INPUT: true; the input reads as it did. -/
def repoCheckSpec : ChangeSpec := { name := "repoCheck", fn := fun _ => fun
  | [d1, d2] => { results := [.lit (.bool true)], args := [d1, d2] }
  | _ => none }
def repoCheckRow : OpenClaim := { program := "ytpebdiofdfpooaagreatdoor", sum := "dfb0db378bc553e2575494ab799612af9bda93574ef2d38f1fde7cb0b7630087", func := "quilt/quiltlaw36.RepoCheck", spec := "repoCheck", inPlace := ["internal/bytealg.Compare", "internal/bytealg.IndexByteString", "internal/abi.NoEscape", "slices.overlaps[quilt/api.Stored]", "slices.overlaps[quilt/api.Branch]"], unfollowed := true, recurses := true, named := ["internal/strconv.uint64pow10", "math/bits.deBruijn32tab", "math/bits.deBruijn64tab"], plainKeys := false, apart := false, laid := [("math/bits.deBruijn32tab", laid_math_bits_deBruijn32tab), ("math/bits.deBruijn64tab", laid_math_bits_deBruijn64tab), ("internal/strconv.uint64pow10", laid_internal_strconv_uint64pow10)] }
def RepoCheckSaid : Prop := repoCheckRow.holds Tryz.pinned (OpenSpec.ofChange repoCheckSpec)

/-- ITS FALSE NEIGHBOUR: 'it returns false'. Refute it at one input. -/
def repoCheckWrong : ChangeSpec := { name := "repoCheck", fn := fun _ => fun
  | [d1, d2] => { results := [.lit (.bool false)], args := [d1, d2] }
  | _ => none }
def RepoCheckWrongFalsely : Prop := repoCheckRow.holds Tryz.pinned (OpenSpec.ofChange repoCheckWrong)

/-- 'quiltlaw36.RepoCollects': WHATEVER THE INPUT: true; the input reads as it did. -/
def repoCollectsSpec : ChangeSpec := { name := "repoCollects", fn := fun _ => fun
  | [d1, d2, d3] => { results := [.lit (.bool true)], args := [d1, d2, d3] }
  | _ => none }
def repoCollectsRow : OpenClaim := { program := "ytpebdiofdfpooaagreatdoor", sum := "dfb0db378bc553e2575494ab799612af9bda93574ef2d38f1fde7cb0b7630087", func := "quilt/quiltlaw36.RepoCollects", spec := "repoCollects", inPlace := ["internal/bytealg.Compare", "internal/bytealg.IndexByteString", "internal/abi.NoEscape", "slices.overlaps[quilt/api.Stored]", "slices.overlaps[quilt/api.Branch]"], unfollowed := true, recurses := true, named := ["internal/strconv.uint64pow10", "math/bits.deBruijn32tab", "math/bits.deBruijn64tab"], plainKeys := false, apart := false, laid := [("math/bits.deBruijn32tab", laid_math_bits_deBruijn32tab), ("math/bits.deBruijn64tab", laid_math_bits_deBruijn64tab), ("internal/strconv.uint64pow10", laid_internal_strconv_uint64pow10)] }
def RepoCollectsSaid : Prop := repoCollectsRow.holds Tryz.pinned (OpenSpec.ofChange repoCollectsSpec)

/-- ITS FALSE NEIGHBOUR: 'it returns false'. Refute it at one input. -/
def repoCollectsWrong : ChangeSpec := { name := "repoCollects", fn := fun _ => fun
  | [d1, d2, d3] => { results := [.lit (.bool false)], args := [d1, d2, d3] }
  | _ => none }
def RepoCollectsWrongFalsely : Prop := repoCollectsRow.holds Tryz.pinned (OpenSpec.ofChange repoCollectsWrong)

/-- 'quiltlaw36.RepoChange': WHATEVER THE INPUT: true; the input reads as it did. -/
def repoChangeSpec : ChangeSpec := { name := "repoChange", fn := fun _ => fun
  | [d1, d2] => { results := [.lit (.bool true)], args := [d1, d2] }
  | _ => none }
def repoChangeRow : OpenClaim := { program := "ytpebdiofdfpooaagreatdoor", sum := "dfb0db378bc553e2575494ab799612af9bda93574ef2d38f1fde7cb0b7630087", func := "quilt/quiltlaw36.RepoChange", spec := "repoChange", inPlace := ["internal/bytealg.Compare", "internal/bytealg.IndexByteString", "internal/abi.NoEscape", "slices.overlaps[quilt/api.Stored]", "slices.overlaps[quilt/api.Branch]"], unfollowed := true, recurses := true, named := ["internal/strconv.uint64pow10", "math/bits.deBruijn32tab", "math/bits.deBruijn64tab"], plainKeys := false, apart := false, laid := [("math/bits.deBruijn32tab", laid_math_bits_deBruijn32tab), ("math/bits.deBruijn64tab", laid_math_bits_deBruijn64tab), ("internal/strconv.uint64pow10", laid_internal_strconv_uint64pow10)] }
def RepoChangeSaid : Prop := repoChangeRow.holds Tryz.pinned (OpenSpec.ofChange repoChangeSpec)

/-- ITS FALSE NEIGHBOUR: 'it returns false'. Refute it at one input. -/
def repoChangeWrong : ChangeSpec := { name := "repoChange", fn := fun _ => fun
  | [d1, d2] => { results := [.lit (.bool false)], args := [d1, d2] }
  | _ => none }
def RepoChangeWrongFalsely : Prop := repoChangeRow.holds Tryz.pinned (OpenSpec.ofChange repoChangeWrong)

/-- 'quiltlaw36.RepoMerges': WHATEVER THE INPUT: true; the input reads as it did. -/
def repoMergesSpec : ChangeSpec := { name := "repoMerges", fn := fun _ => fun
  | [d1, d2, d3, d4] => { results := [.lit (.bool true)], args := [d1, d2, d3, d4] }
  | _ => none }
def repoMergesRow : OpenClaim := { program := "ytpebdiofdfpooaagreatdoor", sum := "dfb0db378bc553e2575494ab799612af9bda93574ef2d38f1fde7cb0b7630087", func := "quilt/quiltlaw36.RepoMerges", spec := "repoMerges", inPlace := ["internal/bytealg.Compare", "internal/bytealg.IndexByteString", "internal/abi.NoEscape", "slices.overlaps[quilt/api.Stored]", "slices.overlaps[quilt/api.Branch]"], unfollowed := true, recurses := true, named := ["internal/strconv.uint64pow10", "math/bits.deBruijn32tab", "math/bits.deBruijn64tab"], plainKeys := false, apart := false, laid := [("math/bits.deBruijn32tab", laid_math_bits_deBruijn32tab), ("math/bits.deBruijn64tab", laid_math_bits_deBruijn64tab), ("internal/strconv.uint64pow10", laid_internal_strconv_uint64pow10)] }
def RepoMergesSaid : Prop := repoMergesRow.holds Tryz.pinned (OpenSpec.ofChange repoMergesSpec)

/-- ITS FALSE NEIGHBOUR: 'it returns false'. Refute it at one input. -/
def repoMergesWrong : ChangeSpec := { name := "repoMerges", fn := fun _ => fun
  | [d1, d2, d3, d4] => { results := [.lit (.bool false)], args := [d1, d2, d3, d4] }
  | _ => none }
def RepoMergesWrongFalsely : Prop := repoMergesRow.holds Tryz.pinned (OpenSpec.ofChange repoMergesWrong)

/-- 'quiltlaw36.RepoNames': WHATEVER THE INPUT: true; the input reads as it did. -/
def repoNamesSpec : ChangeSpec := { name := "repoNames", fn := fun _ => fun
  | [d1, d2, d3] => { results := [.lit (.bool true)], args := [d1, d2, d3] }
  | _ => none }
def repoNamesRow : OpenClaim := { program := "ytpebdiofdfpooaagreatdoor", sum := "dfb0db378bc553e2575494ab799612af9bda93574ef2d38f1fde7cb0b7630087", func := "quilt/quiltlaw36.RepoNames", spec := "repoNames", inPlace := ["internal/bytealg.Compare", "internal/bytealg.IndexByteString", "internal/abi.NoEscape", "slices.overlaps[quilt/api.Stored]", "slices.overlaps[quilt/api.Branch]", "slices.overlaps[quilt/api.Tag]"], unfollowed := true, recurses := true, named := ["internal/strconv.uint64pow10", "math/bits.deBruijn32tab", "math/bits.deBruijn64tab"], plainKeys := false, apart := false, laid := [("math/bits.deBruijn32tab", laid_math_bits_deBruijn32tab), ("math/bits.deBruijn64tab", laid_math_bits_deBruijn64tab), ("internal/strconv.uint64pow10", laid_internal_strconv_uint64pow10)] }
def RepoNamesSaid : Prop := repoNamesRow.holds Tryz.pinned (OpenSpec.ofChange repoNamesSpec)

/-- ITS FALSE NEIGHBOUR: 'it returns false'. Refute it at one input. -/
def repoNamesWrong : ChangeSpec := { name := "repoNames", fn := fun _ => fun
  | [d1, d2, d3] => { results := [.lit (.bool false)], args := [d1, d2, d3] }
  | _ => none }
def RepoNamesWrongFalsely : Prop := repoNamesRow.holds Tryz.pinned (OpenSpec.ofChange repoNamesWrong)

/-- 'quiltlaw36.RepoValid': WHATEVER THE INPUT: true; the input reads as it did. -/
def repoValidSpec : ChangeSpec := { name := "repoValid", fn := fun _ => fun
  | [d1, d2] => { results := [.lit (.bool true)], args := [d1, d2] }
  | _ => none }
def repoValidRow : OpenClaim := { program := "ytpebdiofdfpooaagreatdoor", sum := "dfb0db378bc553e2575494ab799612af9bda93574ef2d38f1fde7cb0b7630087", func := "quilt/quiltlaw36.RepoValid", spec := "repoValid", inPlace := ["internal/bytealg.Compare", "internal/bytealg.IndexByteString", "internal/abi.NoEscape", "slices.overlaps[quilt/api.Stored]", "slices.overlaps[quilt/api.Branch]", "slices.overlaps[quilt/api.Tag]"], unfollowed := true, recurses := true, named := ["internal/strconv.uint64pow10", "math/bits.deBruijn32tab", "math/bits.deBruijn64tab"], plainKeys := false, apart := false, laid := [("math/bits.deBruijn32tab", laid_math_bits_deBruijn32tab), ("math/bits.deBruijn64tab", laid_math_bits_deBruijn64tab), ("internal/strconv.uint64pow10", laid_internal_strconv_uint64pow10)] }
def RepoValidSaid : Prop := repoValidRow.holds Tryz.pinned (OpenSpec.ofChange repoValidSpec)

/-- ITS FALSE NEIGHBOUR: 'it returns false'. Refute it at one input. -/
def repoValidWrong : ChangeSpec := { name := "repoValid", fn := fun _ => fun
  | [d1, d2] => { results := [.lit (.bool false)], args := [d1, d2] }
  | _ => none }
def RepoValidWrongFalsely : Prop := repoValidRow.holds Tryz.pinned (OpenSpec.ofChange repoValidWrong)

/-- 'quiltlaw36.RepoIndependent': WHATEVER THE INPUT: true; the input reads as it did. -/
def repoIndependentSpec : ChangeSpec := { name := "repoIndependent", fn := fun _ => fun
  | [d1, d2] => { results := [.lit (.bool true)], args := [d1, d2] }
  | _ => none }
def repoIndependentRow : OpenClaim := { program := "ytpebdiofdfpooaagreatdoor", sum := "dfb0db378bc553e2575494ab799612af9bda93574ef2d38f1fde7cb0b7630087", func := "quilt/quiltlaw36.RepoIndependent", spec := "repoIndependent", inPlace := ["internal/bytealg.Compare", "internal/bytealg.IndexByteString", "internal/abi.NoEscape", "slices.overlaps[quilt/api.Stored]", "slices.overlaps[quilt/api.Branch]", "slices.overlaps[quilt/api.Tag]"], unfollowed := true, recurses := true, named := ["internal/strconv.uint64pow10", "math/bits.deBruijn32tab", "math/bits.deBruijn64tab"], plainKeys := false, apart := false, laid := [("math/bits.deBruijn32tab", laid_math_bits_deBruijn32tab), ("math/bits.deBruijn64tab", laid_math_bits_deBruijn64tab), ("internal/strconv.uint64pow10", laid_internal_strconv_uint64pow10)] }
def RepoIndependentSaid : Prop := repoIndependentRow.holds Tryz.pinned (OpenSpec.ofChange repoIndependentSpec)

/-- ITS FALSE NEIGHBOUR: 'it returns false'. Refute it at one input. -/
def repoIndependentWrong : ChangeSpec := { name := "repoIndependent", fn := fun _ => fun
  | [d1, d2] => { results := [.lit (.bool false)], args := [d1, d2] }
  | _ => none }
def RepoIndependentWrongFalsely : Prop := repoIndependentRow.holds Tryz.pinned (OpenSpec.ofChange repoIndependentWrong)

/-- 'quiltlaw36.RepoShares': WHATEVER THE INPUT: true; the input reads as it did. -/
def repoSharesSpec : ChangeSpec := { name := "repoShares", fn := fun _ => fun
  | [d1, d2] => { results := [.lit (.bool true)], args := [d1, d2] }
  | _ => none }
def repoSharesRow : OpenClaim := { program := "ytpebdiofdfpooaagreatdoor", sum := "dfb0db378bc553e2575494ab799612af9bda93574ef2d38f1fde7cb0b7630087", func := "quilt/quiltlaw36.RepoShares", spec := "repoShares", inPlace := ["internal/bytealg.Compare", "internal/bytealg.IndexByteString", "internal/abi.NoEscape", "slices.overlaps[quilt/api.Stored]", "slices.overlaps[quilt/api.Branch]", "slices.overlaps[quilt/api.Tag]"], unfollowed := true, recurses := true, named := ["internal/strconv.uint64pow10", "math/bits.deBruijn32tab", "math/bits.deBruijn64tab"], plainKeys := false, apart := false, laid := [("math/bits.deBruijn32tab", laid_math_bits_deBruijn32tab), ("math/bits.deBruijn64tab", laid_math_bits_deBruijn64tab), ("internal/strconv.uint64pow10", laid_internal_strconv_uint64pow10)] }
def RepoSharesSaid : Prop := repoSharesRow.holds Tryz.pinned (OpenSpec.ofChange repoSharesSpec)

/-- ITS FALSE NEIGHBOUR: 'it returns false'. Refute it at one input. -/
def repoSharesWrong : ChangeSpec := { name := "repoShares", fn := fun _ => fun
  | [d1, d2] => { results := [.lit (.bool false)], args := [d1, d2] }
  | _ => none }
def RepoSharesWrongFalsely : Prop := repoSharesRow.holds Tryz.pinned (OpenSpec.ofChange repoSharesWrong)

/-- 'quiltlaw36.RepoTags': WHATEVER THE INPUT: true; the input reads as it did. -/
def repoTagsSpec : ChangeSpec := { name := "repoTags", fn := fun _ => fun
  | [d1, d2, d3] => { results := [.lit (.bool true)], args := [d1, d2, d3] }
  | _ => none }
def repoTagsRow : OpenClaim := { program := "ytpebdiofdfpooaagreatdoor", sum := "dfb0db378bc553e2575494ab799612af9bda93574ef2d38f1fde7cb0b7630087", func := "quilt/quiltlaw36.RepoTags", spec := "repoTags", inPlace := ["internal/bytealg.Compare", "internal/bytealg.IndexByteString", "internal/abi.NoEscape", "slices.overlaps[quilt/api.Stored]", "slices.overlaps[quilt/api.Branch]", "slices.overlaps[quilt/api.Tag]"], unfollowed := true, recurses := true, named := ["internal/strconv.uint64pow10", "math/bits.deBruijn32tab", "math/bits.deBruijn64tab"], plainKeys := false, apart := false, laid := [("math/bits.deBruijn32tab", laid_math_bits_deBruijn32tab), ("math/bits.deBruijn64tab", laid_math_bits_deBruijn64tab), ("internal/strconv.uint64pow10", laid_internal_strconv_uint64pow10)] }
def RepoTagsSaid : Prop := repoTagsRow.holds Tryz.pinned (OpenSpec.ofChange repoTagsSpec)

/-- ITS FALSE NEIGHBOUR: 'it returns false'. Refute it at one input. -/
def repoTagsWrong : ChangeSpec := { name := "repoTags", fn := fun _ => fun
  | [d1, d2, d3] => { results := [.lit (.bool false)], args := [d1, d2, d3] }
  | _ => none }
def RepoTagsWrongFalsely : Prop := repoTagsRow.holds Tryz.pinned (OpenSpec.ofChange repoTagsWrong)

/- THE SECOND FORM. 'bulk': how many values and letters a reading holds, each counted each time it is reached (what is shared counts as often as it is met; a slice's spare places count too). A statement '..UptoSaid' is the law's where the arguments, and the package variables that the reading takes, are together of bulk at most 1048576: NARROWER than '..Said'. Prove '..Said' where nothing that the law and all that it calls make is longer than what came in: it says more and counts as full. Else prove '..UptoSaid'. A law counts once. -/
mutual
def uptoBulk {H : Type} : DataW H → Nat
  | .lit (.string bytes) => bytes.length + 1
  | .lit _ => 1
  | .nil => 1
  | .ptr d => uptoBulk d + 1
  | .slice elems spare => uptoBulkAll elems + uptoBulkAll spare + 1
  | .agg parts => uptoBulkAll parts + 1
  | .iface _ d => uptoBulk d + 1
  | .map entries => uptoBulkEntries entries + 1
  | .held _ => 1
def uptoBulkAll {H : Type} : List (DataW H) → Nat
  | [] => 0
  | d :: r => uptoBulk d + uptoBulkAll r
def uptoBulkEntries {H : Type} : List (Lit × DataW H) → Nat
  | [] => 0
  | x :: r => uptoBulkEntry x + uptoBulkEntries r
def uptoBulkEntry {H : Type} : Lit × DataW H → Nat
  | (.string bytes, d) => bytes.length + uptoBulk d + 1
  | (_, d) => uptoBulk d + 1
 end
def uptoSmall : (H : Type) → List (DataW H) → Bool := fun _ ds => decide (uptoBulkAll ds ≤ 1048576)
def OpenSpec.upto (s : _root_.Go.ChangeSpec) : _root_.Go.OpenSpec := { _root_.Go.OpenSpec.ofChange s with cond := some uptoSmall }

/-- 'quiltlaw36.RepoCheck', WHERE WHAT IT READS IS OF BULK AT MOST 1048576: true; the input reads as it did. -/
def repoCheckUptoRow : OpenClaim := { program := "ytpebdiofdfpooaagreatdoor", sum := "dfb0db378bc553e2575494ab799612af9bda93574ef2d38f1fde7cb0b7630087", func := "quilt/quiltlaw36.RepoCheck", spec := "repoCheck", inPlace := ["internal/bytealg.Compare", "internal/bytealg.IndexByteString", "internal/abi.NoEscape", "slices.overlaps[quilt/api.Stored]", "slices.overlaps[quilt/api.Branch]"], unfollowed := true, recurses := true, named := ["internal/strconv.uint64pow10", "math/bits.deBruijn32tab", "math/bits.deBruijn64tab"], plainKeys := false, apart := false, laid := [("math/bits.deBruijn32tab", laid_math_bits_deBruijn32tab), ("math/bits.deBruijn64tab", laid_math_bits_deBruijn64tab), ("internal/strconv.uint64pow10", laid_internal_strconv_uint64pow10)], narrowed := true }
def RepoCheckUptoSaid : Prop := repoCheckUptoRow.holds Tryz.pinned (OpenSpec.upto repoCheckSpec)

/-- 'quiltlaw36.RepoCollects', WHERE WHAT IT READS IS OF BULK AT MOST 1048576: true; the input reads as it did. -/
def repoCollectsUptoRow : OpenClaim := { program := "ytpebdiofdfpooaagreatdoor", sum := "dfb0db378bc553e2575494ab799612af9bda93574ef2d38f1fde7cb0b7630087", func := "quilt/quiltlaw36.RepoCollects", spec := "repoCollects", inPlace := ["internal/bytealg.Compare", "internal/bytealg.IndexByteString", "internal/abi.NoEscape", "slices.overlaps[quilt/api.Stored]", "slices.overlaps[quilt/api.Branch]"], unfollowed := true, recurses := true, named := ["internal/strconv.uint64pow10", "math/bits.deBruijn32tab", "math/bits.deBruijn64tab"], plainKeys := false, apart := false, laid := [("math/bits.deBruijn32tab", laid_math_bits_deBruijn32tab), ("math/bits.deBruijn64tab", laid_math_bits_deBruijn64tab), ("internal/strconv.uint64pow10", laid_internal_strconv_uint64pow10)], narrowed := true }
def RepoCollectsUptoSaid : Prop := repoCollectsUptoRow.holds Tryz.pinned (OpenSpec.upto repoCollectsSpec)

/-- 'quiltlaw36.RepoChange', WHERE WHAT IT READS IS OF BULK AT MOST 1048576: true; the input reads as it did. -/
def repoChangeUptoRow : OpenClaim := { program := "ytpebdiofdfpooaagreatdoor", sum := "dfb0db378bc553e2575494ab799612af9bda93574ef2d38f1fde7cb0b7630087", func := "quilt/quiltlaw36.RepoChange", spec := "repoChange", inPlace := ["internal/bytealg.Compare", "internal/bytealg.IndexByteString", "internal/abi.NoEscape", "slices.overlaps[quilt/api.Stored]", "slices.overlaps[quilt/api.Branch]"], unfollowed := true, recurses := true, named := ["internal/strconv.uint64pow10", "math/bits.deBruijn32tab", "math/bits.deBruijn64tab"], plainKeys := false, apart := false, laid := [("math/bits.deBruijn32tab", laid_math_bits_deBruijn32tab), ("math/bits.deBruijn64tab", laid_math_bits_deBruijn64tab), ("internal/strconv.uint64pow10", laid_internal_strconv_uint64pow10)], narrowed := true }
def RepoChangeUptoSaid : Prop := repoChangeUptoRow.holds Tryz.pinned (OpenSpec.upto repoChangeSpec)

/-- 'quiltlaw36.RepoMerges', WHERE WHAT IT READS IS OF BULK AT MOST 1048576: true; the input reads as it did. -/
def repoMergesUptoRow : OpenClaim := { program := "ytpebdiofdfpooaagreatdoor", sum := "dfb0db378bc553e2575494ab799612af9bda93574ef2d38f1fde7cb0b7630087", func := "quilt/quiltlaw36.RepoMerges", spec := "repoMerges", inPlace := ["internal/bytealg.Compare", "internal/bytealg.IndexByteString", "internal/abi.NoEscape", "slices.overlaps[quilt/api.Stored]", "slices.overlaps[quilt/api.Branch]"], unfollowed := true, recurses := true, named := ["internal/strconv.uint64pow10", "math/bits.deBruijn32tab", "math/bits.deBruijn64tab"], plainKeys := false, apart := false, laid := [("math/bits.deBruijn32tab", laid_math_bits_deBruijn32tab), ("math/bits.deBruijn64tab", laid_math_bits_deBruijn64tab), ("internal/strconv.uint64pow10", laid_internal_strconv_uint64pow10)], narrowed := true }
def RepoMergesUptoSaid : Prop := repoMergesUptoRow.holds Tryz.pinned (OpenSpec.upto repoMergesSpec)

/-- 'quiltlaw36.RepoNames', WHERE WHAT IT READS IS OF BULK AT MOST 1048576: true; the input reads as it did. -/
def repoNamesUptoRow : OpenClaim := { program := "ytpebdiofdfpooaagreatdoor", sum := "dfb0db378bc553e2575494ab799612af9bda93574ef2d38f1fde7cb0b7630087", func := "quilt/quiltlaw36.RepoNames", spec := "repoNames", inPlace := ["internal/bytealg.Compare", "internal/bytealg.IndexByteString", "internal/abi.NoEscape", "slices.overlaps[quilt/api.Stored]", "slices.overlaps[quilt/api.Branch]", "slices.overlaps[quilt/api.Tag]"], unfollowed := true, recurses := true, named := ["internal/strconv.uint64pow10", "math/bits.deBruijn32tab", "math/bits.deBruijn64tab"], plainKeys := false, apart := false, laid := [("math/bits.deBruijn32tab", laid_math_bits_deBruijn32tab), ("math/bits.deBruijn64tab", laid_math_bits_deBruijn64tab), ("internal/strconv.uint64pow10", laid_internal_strconv_uint64pow10)], narrowed := true }
def RepoNamesUptoSaid : Prop := repoNamesUptoRow.holds Tryz.pinned (OpenSpec.upto repoNamesSpec)

/-- 'quiltlaw36.RepoValid', WHERE WHAT IT READS IS OF BULK AT MOST 1048576: true; the input reads as it did. -/
def repoValidUptoRow : OpenClaim := { program := "ytpebdiofdfpooaagreatdoor", sum := "dfb0db378bc553e2575494ab799612af9bda93574ef2d38f1fde7cb0b7630087", func := "quilt/quiltlaw36.RepoValid", spec := "repoValid", inPlace := ["internal/bytealg.Compare", "internal/bytealg.IndexByteString", "internal/abi.NoEscape", "slices.overlaps[quilt/api.Stored]", "slices.overlaps[quilt/api.Branch]", "slices.overlaps[quilt/api.Tag]"], unfollowed := true, recurses := true, named := ["internal/strconv.uint64pow10", "math/bits.deBruijn32tab", "math/bits.deBruijn64tab"], plainKeys := false, apart := false, laid := [("math/bits.deBruijn32tab", laid_math_bits_deBruijn32tab), ("math/bits.deBruijn64tab", laid_math_bits_deBruijn64tab), ("internal/strconv.uint64pow10", laid_internal_strconv_uint64pow10)], narrowed := true }
def RepoValidUptoSaid : Prop := repoValidUptoRow.holds Tryz.pinned (OpenSpec.upto repoValidSpec)

/-- 'quiltlaw36.RepoIndependent', WHERE WHAT IT READS IS OF BULK AT MOST 1048576: true; the input reads as it did. -/
def repoIndependentUptoRow : OpenClaim := { program := "ytpebdiofdfpooaagreatdoor", sum := "dfb0db378bc553e2575494ab799612af9bda93574ef2d38f1fde7cb0b7630087", func := "quilt/quiltlaw36.RepoIndependent", spec := "repoIndependent", inPlace := ["internal/bytealg.Compare", "internal/bytealg.IndexByteString", "internal/abi.NoEscape", "slices.overlaps[quilt/api.Stored]", "slices.overlaps[quilt/api.Branch]", "slices.overlaps[quilt/api.Tag]"], unfollowed := true, recurses := true, named := ["internal/strconv.uint64pow10", "math/bits.deBruijn32tab", "math/bits.deBruijn64tab"], plainKeys := false, apart := false, laid := [("math/bits.deBruijn32tab", laid_math_bits_deBruijn32tab), ("math/bits.deBruijn64tab", laid_math_bits_deBruijn64tab), ("internal/strconv.uint64pow10", laid_internal_strconv_uint64pow10)], narrowed := true }
def RepoIndependentUptoSaid : Prop := repoIndependentUptoRow.holds Tryz.pinned (OpenSpec.upto repoIndependentSpec)

/-- 'quiltlaw36.RepoShares', WHERE WHAT IT READS IS OF BULK AT MOST 1048576: true; the input reads as it did. -/
def repoSharesUptoRow : OpenClaim := { program := "ytpebdiofdfpooaagreatdoor", sum := "dfb0db378bc553e2575494ab799612af9bda93574ef2d38f1fde7cb0b7630087", func := "quilt/quiltlaw36.RepoShares", spec := "repoShares", inPlace := ["internal/bytealg.Compare", "internal/bytealg.IndexByteString", "internal/abi.NoEscape", "slices.overlaps[quilt/api.Stored]", "slices.overlaps[quilt/api.Branch]", "slices.overlaps[quilt/api.Tag]"], unfollowed := true, recurses := true, named := ["internal/strconv.uint64pow10", "math/bits.deBruijn32tab", "math/bits.deBruijn64tab"], plainKeys := false, apart := false, laid := [("math/bits.deBruijn32tab", laid_math_bits_deBruijn32tab), ("math/bits.deBruijn64tab", laid_math_bits_deBruijn64tab), ("internal/strconv.uint64pow10", laid_internal_strconv_uint64pow10)], narrowed := true }
def RepoSharesUptoSaid : Prop := repoSharesUptoRow.holds Tryz.pinned (OpenSpec.upto repoSharesSpec)

/-- 'quiltlaw36.RepoTags', WHERE WHAT IT READS IS OF BULK AT MOST 1048576: true; the input reads as it did. -/
def repoTagsUptoRow : OpenClaim := { program := "ytpebdiofdfpooaagreatdoor", sum := "dfb0db378bc553e2575494ab799612af9bda93574ef2d38f1fde7cb0b7630087", func := "quilt/quiltlaw36.RepoTags", spec := "repoTags", inPlace := ["internal/bytealg.Compare", "internal/bytealg.IndexByteString", "internal/abi.NoEscape", "slices.overlaps[quilt/api.Stored]", "slices.overlaps[quilt/api.Branch]", "slices.overlaps[quilt/api.Tag]"], unfollowed := true, recurses := true, named := ["internal/strconv.uint64pow10", "math/bits.deBruijn32tab", "math/bits.deBruijn64tab"], plainKeys := false, apart := false, laid := [("math/bits.deBruijn32tab", laid_math_bits_deBruijn32tab), ("math/bits.deBruijn64tab", laid_math_bits_deBruijn64tab), ("internal/strconv.uint64pow10", laid_internal_strconv_uint64pow10)], narrowed := true }
def RepoTagsUptoSaid : Prop := repoTagsUptoRow.holds Tryz.pinned (OpenSpec.upto repoTagsSpec)

end Rows
end Go.Proofs.YtpebdiofdfpooaaGreatDoor
