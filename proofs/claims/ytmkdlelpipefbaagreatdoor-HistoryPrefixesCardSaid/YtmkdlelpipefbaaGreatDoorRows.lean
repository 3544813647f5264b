/-
  NARROWER THAN 'FOR EVERY INPUT', by the rows' own cells (each row's printed sentence says how): HistoryDepth: laid · HistoryTops: laid · HistoryLog: laid · HistoryConnected: laid · HistorySwaps: laid · HistoryPrefixes: laid · HistoryMoves: laid.
  DERIVED. THE GIVEN ROWS OF THIS SEAT. 7 by the template 'for every input the law returns true; each argument reads behind the call as it read before'; 0 by the template 'total and deterministic' (their statements: YtmkdlelpipefbaaGreatDoorTotals.lean).
  GIVEN WITH THE SEED: the statements are not yours to turn. If you find one false, say at which input.
  Laid BY PROGRAM, IN A SANDBOX (cutbox-rows.mjs): the forced cells as the released guide's own fill.sh prints them over the translation 5ff251163f7481d3… (all of the seat's roots in one cut). By AI agents, Wed Nov 11 2026. No macro, syntax, notation, axiom, sorry.
-/
import Derived.Test.YtmkdlelpipefbaaGreatDoorChecked
import GoSem.Claim
import GoSem.ClaimJoined
import GoSem.ClaimMapViews
import Derived.JoinedTies
import Derived.KernelRfl
namespace Go.Proofs.YtmkdlelpipefbaaGreatDoor
/- THE CELL 'sum', in the pinned program and in every row, IS THE sha256 OF THE DUMP (.gsa) THAT YtmkdlelpipefbaaGreatDoorProg.lean LOADS. Nothing in Lean hashes anything: it is a label: what it is worth is what the hold of that sum in a sandbox is worth. -/
noncomputable def Tryz.pinned : Pinned := { name := "ytmkdlelpipefbaagreatdoor", sum := "5ff251163f7481d38b6b4618de15fb2fd1a2619ed5e8d1d3cd3704762148fd64", checked := Tryz.checked }
namespace Rows
def none {H : Type} : Left H := { results := [], args := [] }

/- WHAT THE LISTED PACKAGE-LEVEL VARIABLES READ AS WHEN THE CALL BEGINS. Each datum BY PROGRAM (the guide's laid-datum.mjs) off the statement by which the dump's own 'gosem.cut.vars' lays the variable. In a bare row this is a premise. The card (YtmkdlelpipefbaaGreatDoorCards.lean) ties it to the program's text. -/
def laid_math_bits_deBruijn32tab {H : Type} : DataW H := .agg [.lit (.int .u8 0), .lit (.int .u8 1), .lit (.int .u8 28), .lit (.int .u8 2), .lit (.int .u8 29), .lit (.int .u8 14), .lit (.int .u8 24), .lit (.int .u8 3), .lit (.int .u8 30), .lit (.int .u8 22), .lit (.int .u8 20), .lit (.int .u8 15), .lit (.int .u8 25), .lit (.int .u8 17), .lit (.int .u8 4), .lit (.int .u8 8), .lit (.int .u8 31), .lit (.int .u8 27), .lit (.int .u8 13), .lit (.int .u8 23), .lit (.int .u8 21), .lit (.int .u8 19), .lit (.int .u8 16), .lit (.int .u8 7), .lit (.int .u8 26), .lit (.int .u8 12), .lit (.int .u8 18), .lit (.int .u8 6), .lit (.int .u8 11), .lit (.int .u8 5), .lit (.int .u8 10), .lit (.int .u8 9)]
def laid_math_bits_deBruijn64tab {H : Type} : DataW H := .agg [.lit (.int .u8 0), .lit (.int .u8 1), .lit (.int .u8 56), .lit (.int .u8 2), .lit (.int .u8 57), .lit (.int .u8 49), .lit (.int .u8 28), .lit (.int .u8 3), .lit (.int .u8 61), .lit (.int .u8 58), .lit (.int .u8 42), .lit (.int .u8 50), .lit (.int .u8 38), .lit (.int .u8 29), .lit (.int .u8 17), .lit (.int .u8 4), .lit (.int .u8 62), .lit (.int .u8 47), .lit (.int .u8 59), .lit (.int .u8 36), .lit (.int .u8 45), .lit (.int .u8 43), .lit (.int .u8 51), .lit (.int .u8 22), .lit (.int .u8 53), .lit (.int .u8 39), .lit (.int .u8 33), .lit (.int .u8 30), .lit (.int .u8 24), .lit (.int .u8 18), .lit (.int .u8 12), .lit (.int .u8 5), .lit (.int .u8 63), .lit (.int .u8 55), .lit (.int .u8 48), .lit (.int .u8 27), .lit (.int .u8 60), .lit (.int .u8 41), .lit (.int .u8 37), .lit (.int .u8 16), .lit (.int .u8 46), .lit (.int .u8 35), .lit (.int .u8 44), .lit (.int .u8 21), .lit (.int .u8 52), .lit (.int .u8 32), .lit (.int .u8 23), .lit (.int .u8 11), .lit (.int .u8 54), .lit (.int .u8 26), .lit (.int .u8 40), .lit (.int .u8 15), .lit (.int .u8 34), .lit (.int .u8 20), .lit (.int .u8 31), .lit (.int .u8 10), .lit (.int .u8 25), .lit (.int .u8 14), .lit (.int .u8 19), .lit (.int .u8 9), .lit (.int .u8 13), .lit (.int .u8 8), .lit (.int .u8 7), .lit (.int .u8 6)]
def laid_internal_strconv_uint64pow10 {H : Type} : DataW H := .agg [.lit (.int .u64 1), .lit (.int .u64 10), .lit (.int .u64 100), .lit (.int .u64 1000), .lit (.int .u64 10000), .lit (.int .u64 100000), .lit (.int .u64 1000000), .lit (.int .u64 10000000), .lit (.int .u64 100000000), .lit (.int .u64 1000000000), .lit (.int .u64 10000000000), .lit (.int .u64 100000000000), .lit (.int .u64 1000000000000), .lit (.int .u64 10000000000000), .lit (.int .u64 100000000000000), .lit (.int .u64 1000000000000000), .lit (.int .u64 10000000000000000), .lit (.int .u64 100000000000000000), .lit (.int .u64 1000000000000000000), .lit (.int .u64 10000000000000000000)]

/-- 'quiltlaw30.HistoryDepth': WHATEVER THE INPUT: true; the input reads as it did. -/
def historyDepthSpec : ChangeSpec := { name := "historyDepth", fn := fun _ => fun
  | [d1, d2] => { results := [.lit (.bool true)], args := [d1, d2] }
  | _ => none }
def historyDepthRow : OpenClaim := { program := "ytmkdlelpipefbaagreatdoor", sum := "5ff251163f7481d38b6b4618de15fb2fd1a2619ed5e8d1d3cd3704762148fd64", func := "quilt/quiltlaw30.HistoryDepth", spec := "historyDepth", inPlace := ["internal/bytealg.Compare", "internal/bytealg.IndexByteString", "internal/abi.NoEscape", "slices.overlaps[quilt/api.Stored]"], unfollowed := true, recurses := true, named := ["internal/strconv.uint64pow10", "math/bits.deBruijn32tab", "math/bits.deBruijn64tab"], plainKeys := false, apart := false, laid := [("math/bits.deBruijn32tab", laid_math_bits_deBruijn32tab), ("math/bits.deBruijn64tab", laid_math_bits_deBruijn64tab), ("internal/strconv.uint64pow10", laid_internal_strconv_uint64pow10)] }
def HistoryDepthSaid : Prop := historyDepthRow.holds Tryz.pinned (OpenSpec.ofChange historyDepthSpec)

/-- ITS FALSE NEIGHBOUR: 'it returns false'. Refute it at one input. -/
def historyDepthWrong : ChangeSpec := { name := "historyDepth", fn := fun _ => fun
  | [d1, d2] => { results := [.lit (.bool false)], args := [d1, d2] }
  | _ => none }
def HistoryDepthWrongFalsely : Prop := historyDepthRow.holds Tryz.pinned (OpenSpec.ofChange historyDepthWrong)

/-- 'quiltlaw30.HistoryTops': WHATEVER THE INPUT: true; the input reads as it did. -/
def historyTopsSpec : ChangeSpec := { name := "historyTops", fn := fun _ => fun
  | [d] => { results := [.lit (.bool true)], args := [d] }
  | _ => none }
def historyTopsRow : OpenClaim := { program := "ytmkdlelpipefbaagreatdoor", sum := "5ff251163f7481d38b6b4618de15fb2fd1a2619ed5e8d1d3cd3704762148fd64", func := "quilt/quiltlaw30.HistoryTops", spec := "historyTops", inPlace := ["internal/bytealg.Compare", "internal/bytealg.IndexByteString", "internal/abi.NoEscape", "slices.overlaps[quilt/api.Stored]"], unfollowed := true, recurses := true, named := ["internal/strconv.uint64pow10", "math/bits.deBruijn32tab", "math/bits.deBruijn64tab"], plainKeys := false, apart := false, laid := [("math/bits.deBruijn32tab", laid_math_bits_deBruijn32tab), ("math/bits.deBruijn64tab", laid_math_bits_deBruijn64tab), ("internal/strconv.uint64pow10", laid_internal_strconv_uint64pow10)] }
def HistoryTopsSaid : Prop := historyTopsRow.holds Tryz.pinned (OpenSpec.ofChange historyTopsSpec)

/-- ITS FALSE NEIGHBOUR: 'it returns false'. Refute it at one input. -/
def historyTopsWrong : ChangeSpec := { name := "historyTops", fn := fun _ => fun
  | [d] => { results := [.lit (.bool false)], args := [d] }
  | _ => none }
def HistoryTopsWrongFalsely : Prop := historyTopsRow.holds Tryz.pinned (OpenSpec.ofChange historyTopsWrong)

/-- 'quiltlaw30.HistoryLog': WHATEVER THE INPUT: true; the input reads as it did. -/
def historyLogSpec : ChangeSpec := { name := "historyLog", fn := fun _ => fun
  | [d1, d2] => { results := [.lit (.bool true)], args := [d1, d2] }
  | _ => none }
def historyLogRow : OpenClaim := { program := "ytmkdlelpipefbaagreatdoor", sum := "5ff251163f7481d38b6b4618de15fb2fd1a2619ed5e8d1d3cd3704762148fd64", func := "quilt/quiltlaw30.HistoryLog", spec := "historyLog", inPlace := ["internal/bytealg.Compare", "internal/bytealg.IndexByteString", "internal/abi.NoEscape", "slices.overlaps[quilt/api.Stored]"], unfollowed := true, recurses := true, named := ["internal/strconv.uint64pow10", "math/bits.deBruijn32tab", "math/bits.deBruijn64tab"], plainKeys := false, apart := false, laid := [("math/bits.deBruijn32tab", laid_math_bits_deBruijn32tab), ("math/bits.deBruijn64tab", laid_math_bits_deBruijn64tab), ("internal/strconv.uint64pow10", laid_internal_strconv_uint64pow10)] }
def HistoryLogSaid : Prop := historyLogRow.holds Tryz.pinned (OpenSpec.ofChange historyLogSpec)

/-- ITS FALSE NEIGHBOUR: 'it returns false'. Refute it at one input. -/
def historyLogWrong : ChangeSpec := { name := "historyLog", fn := fun _ => fun
  | [d1, d2] => { results := [.lit (.bool false)], args := [d1, d2] }
  | _ => none }
def HistoryLogWrongFalsely : Prop := historyLogRow.holds Tryz.pinned (OpenSpec.ofChange historyLogWrong)

/-- 'quiltlaw30.HistoryConnected': WHATEVER THE INPUT: true; the input reads as it did. -/
def historyConnectedSpec : ChangeSpec := { name := "historyConnected", fn := fun _ => fun
  | [d1, d2, d3] => { results := [.lit (.bool true)], args := [d1, d2, d3] }
  | _ => none }
def historyConnectedRow : OpenClaim := { program := "ytmkdlelpipefbaagreatdoor", sum := "5ff251163f7481d38b6b4618de15fb2fd1a2619ed5e8d1d3cd3704762148fd64", func := "quilt/quiltlaw30.HistoryConnected", spec := "historyConnected", inPlace := ["internal/bytealg.Compare", "internal/bytealg.IndexByteString", "internal/abi.NoEscape", "slices.overlaps[quilt/api.Stored]"], unfollowed := true, recurses := true, named := ["internal/strconv.uint64pow10", "math/bits.deBruijn32tab", "math/bits.deBruijn64tab"], plainKeys := false, apart := false, laid := [("math/bits.deBruijn32tab", laid_math_bits_deBruijn32tab), ("math/bits.deBruijn64tab", laid_math_bits_deBruijn64tab), ("internal/strconv.uint64pow10", laid_internal_strconv_uint64pow10)] }
def HistoryConnectedSaid : Prop := historyConnectedRow.holds Tryz.pinned (OpenSpec.ofChange historyConnectedSpec)

/-- ITS FALSE NEIGHBOUR: 'it returns false'. Refute it at one input. -/
def historyConnectedWrong : ChangeSpec := { name := "historyConnected", fn := fun _ => fun
  | [d1, d2, d3] => { results := [.lit (.bool false)], args := [d1, d2, d3] }
  | _ => none }
def HistoryConnectedWrongFalsely : Prop := historyConnectedRow.holds Tryz.pinned (OpenSpec.ofChange historyConnectedWrong)

/-- 'quiltlaw30.HistorySwaps': WHATEVER THE INPUT: true; the input reads as it did. -/
def historySwapsSpec : ChangeSpec := { name := "historySwaps", fn := fun _ => fun
  | [d1, d2, d3] => { results := [.lit (.bool true)], args := [d1, d2, d3] }
  | _ => none }
def historySwapsRow : OpenClaim := { program := "ytmkdlelpipefbaagreatdoor", sum := "5ff251163f7481d38b6b4618de15fb2fd1a2619ed5e8d1d3cd3704762148fd64", func := "quilt/quiltlaw30.HistorySwaps", spec := "historySwaps", inPlace := ["internal/bytealg.Compare", "internal/bytealg.IndexByteString", "internal/abi.NoEscape", "slices.overlaps[quilt/api.Stored]"], unfollowed := true, recurses := true, named := ["internal/strconv.uint64pow10", "math/bits.deBruijn32tab", "math/bits.deBruijn64tab"], plainKeys := false, apart := false, laid := [("math/bits.deBruijn32tab", laid_math_bits_deBruijn32tab), ("math/bits.deBruijn64tab", laid_math_bits_deBruijn64tab), ("internal/strconv.uint64pow10", laid_internal_strconv_uint64pow10)] }
def HistorySwapsSaid : Prop := historySwapsRow.holds Tryz.pinned (OpenSpec.ofChange historySwapsSpec)

/-- ITS FALSE NEIGHBOUR: 'it returns false'. Refute it at one input. -/
def historySwapsWrong : ChangeSpec := { name := "historySwaps", fn := fun _ => fun
  | [d1, d2, d3] => { results := [.lit (.bool false)], args := [d1, d2, d3] }
  | _ => none }
def HistorySwapsWrongFalsely : Prop := historySwapsRow.holds Tryz.pinned (OpenSpec.ofChange historySwapsWrong)

/-- 'quiltlaw30.HistoryPrefixes': WHATEVER THE INPUT: true; the input reads as it did. -/
def historyPrefixesSpec : ChangeSpec := { name := "historyPrefixes", fn := fun _ => fun
  | [d1, d2, d3] => { results := [.lit (.bool true)], args := [d1, d2, d3] }
  | _ => none }
def historyPrefixesRow : OpenClaim := { program := "ytmkdlelpipefbaagreatdoor", sum := "5ff251163f7481d38b6b4618de15fb2fd1a2619ed5e8d1d3cd3704762148fd64", func := "quilt/quiltlaw30.HistoryPrefixes", spec := "historyPrefixes", inPlace := ["internal/bytealg.Compare", "internal/bytealg.IndexByteString", "internal/abi.NoEscape", "slices.overlaps[quilt/api.Stored]"], unfollowed := true, recurses := true, named := ["internal/strconv.uint64pow10", "math/bits.deBruijn32tab", "math/bits.deBruijn64tab"], plainKeys := false, apart := false, laid := [("math/bits.deBruijn32tab", laid_math_bits_deBruijn32tab), ("math/bits.deBruijn64tab", laid_math_bits_deBruijn64tab), ("internal/strconv.uint64pow10", laid_internal_strconv_uint64pow10)] }
def HistoryPrefixesSaid : Prop := historyPrefixesRow.holds Tryz.pinned (OpenSpec.ofChange historyPrefixesSpec)

/-- ITS FALSE NEIGHBOUR: 'it returns false'. Refute it at one input. -/
def historyPrefixesWrong : ChangeSpec := { name := "historyPrefixes", fn := fun _ => fun
  | [d1, d2, d3] => { results := [.lit (.bool false)], args := [d1, d2, d3] }
  | _ => none }
def HistoryPrefixesWrongFalsely : Prop := historyPrefixesRow.holds Tryz.pinned (OpenSpec.ofChange historyPrefixesWrong)

/-- 'quiltlaw30.HistoryMoves': WHATEVER THE INPUT: true; the input reads as it did. -/
def historyMovesSpec : ChangeSpec := { name := "historyMoves", fn := fun _ => fun
  | [d1, d2, d3, d4] => { results := [.lit (.bool true)], args := [d1, d2, d3, d4] }
  | _ => none }
def historyMovesRow : OpenClaim := { program := "ytmkdlelpipefbaagreatdoor", sum := "5ff251163f7481d38b6b4618de15fb2fd1a2619ed5e8d1d3cd3704762148fd64", func := "quilt/quiltlaw30.HistoryMoves", spec := "historyMoves", inPlace := ["internal/bytealg.Compare", "internal/bytealg.IndexByteString", "internal/abi.NoEscape", "slices.overlaps[quilt/api.Stored]"], unfollowed := true, recurses := true, named := ["internal/strconv.uint64pow10", "math/bits.deBruijn32tab", "math/bits.deBruijn64tab"], plainKeys := false, apart := false, laid := [("math/bits.deBruijn32tab", laid_math_bits_deBruijn32tab), ("math/bits.deBruijn64tab", laid_math_bits_deBruijn64tab), ("internal/strconv.uint64pow10", laid_internal_strconv_uint64pow10)] }
def HistoryMovesSaid : Prop := historyMovesRow.holds Tryz.pinned (OpenSpec.ofChange historyMovesSpec)

/-- ITS FALSE NEIGHBOUR: 'it returns false'. Refute it at one input. -/
def historyMovesWrong : ChangeSpec := { name := "historyMoves", fn := fun _ => fun
  | [d1, d2, d3, d4] => { results := [.lit (.bool false)], args := [d1, d2, d3, d4] }
  | _ => none }
def HistoryMovesWrongFalsely : Prop := historyMovesRow.holds Tryz.pinned (OpenSpec.ofChange historyMovesWrong)

/- THE SECOND FORM. 'bulk': how many values and letters a reading holds, each counted each time it is reached (what is shared counts as often as it is met; a slice's spare places count too). A statement '..UptoSaid' is the law's where the arguments, and the package variables that the reading takes, are together of bulk at most 1048576: NARROWER than '..Said'. Prove '..Said' where nothing that the law and all that it calls make is longer than what came in: it says more and counts as full. Else prove '..UptoSaid'. A law counts once. -/
mutual
def uptoBulk {H : Type} : DataW H → Nat
  | .lit (.string bytes) => bytes.length + 1
  | .lit _ => 1
  | .nil => 1
  | .ptr d => uptoBulk d + 1
  | .slice elems spare => uptoBulkAll elems + uptoBulkAll spare + 1
  | .agg parts => uptoBulkAll parts + 1
  | .iface _ d => uptoBulk d + 1
  | .map entries => uptoBulkEntries entries + 1
  | .held _ => 1
def uptoBulkAll {H : Type} : List (DataW H) → Nat
  | [] => 0
  | d :: r => uptoBulk d + uptoBulkAll r
def uptoBulkEntries {H : Type} : List (Lit × DataW H) → Nat
  | [] => 0
  | x :: r => uptoBulkEntry x + uptoBulkEntries r
def uptoBulkEntry {H : Type} : Lit × DataW H → Nat
  | (.string bytes, d) => bytes.length + uptoBulk d + 1
  | (_, d) => uptoBulk d + 1
 end
def uptoSmall : (H : Type) → List (DataW H) → Bool := fun _ ds => decide (uptoBulkAll ds ≤ 1048576)
def OpenSpec.upto (s : _root_.Go.ChangeSpec) : _root_.Go.OpenSpec := { _root_.Go.OpenSpec.ofChange s with cond := some uptoSmall }

/-- 'quiltlaw30.HistoryDepth', WHERE WHAT IT READS IS OF BULK AT MOST 1048576: true; the input reads as it did. -/
def historyDepthUptoRow : OpenClaim := { program := "ytmkdlelpipefbaagreatdoor", sum := "5ff251163f7481d38b6b4618de15fb2fd1a2619ed5e8d1d3cd3704762148fd64", func := "quilt/quiltlaw30.HistoryDepth", spec := "historyDepth", inPlace := ["internal/bytealg.Compare", "internal/bytealg.IndexByteString", "internal/abi.NoEscape", "slices.overlaps[quilt/api.Stored]"], unfollowed := true, recurses := true, named := ["internal/strconv.uint64pow10", "math/bits.deBruijn32tab", "math/bits.deBruijn64tab"], plainKeys := false, apart := false, laid := [("math/bits.deBruijn32tab", laid_math_bits_deBruijn32tab), ("math/bits.deBruijn64tab", laid_math_bits_deBruijn64tab), ("internal/strconv.uint64pow10", laid_internal_strconv_uint64pow10)], narrowed := true }
def HistoryDepthUptoSaid : Prop := historyDepthUptoRow.holds Tryz.pinned (OpenSpec.upto historyDepthSpec)

/-- 'quiltlaw30.HistoryTops', WHERE WHAT IT READS IS OF BULK AT MOST 1048576: true; the input reads as it did. -/
def historyTopsUptoRow : OpenClaim := { program := "ytmkdlelpipefbaagreatdoor", sum := "5ff251163f7481d38b6b4618de15fb2fd1a2619ed5e8d1d3cd3704762148fd64", func := "quilt/quiltlaw30.HistoryTops", spec := "historyTops", inPlace := ["internal/bytealg.Compare", "internal/bytealg.IndexByteString", "internal/abi.NoEscape", "slices.overlaps[quilt/api.Stored]"], unfollowed := true, recurses := true, named := ["internal/strconv.uint64pow10", "math/bits.deBruijn32tab", "math/bits.deBruijn64tab"], plainKeys := false, apart := false, laid := [("math/bits.deBruijn32tab", laid_math_bits_deBruijn32tab), ("math/bits.deBruijn64tab", laid_math_bits_deBruijn64tab), ("internal/strconv.uint64pow10", laid_internal_strconv_uint64pow10)], narrowed := true }
def HistoryTopsUptoSaid : Prop := historyTopsUptoRow.holds Tryz.pinned (OpenSpec.upto historyTopsSpec)

/-- 'quiltlaw30.HistoryLog', WHERE WHAT IT READS IS OF BULK AT MOST 1048576: true; the input reads as it did. -/
def historyLogUptoRow : OpenClaim := { program := "ytmkdlelpipefbaagreatdoor", sum := "5ff251163f7481d38b6b4618de15fb2fd1a2619ed5e8d1d3cd3704762148fd64", func := "quilt/quiltlaw30.HistoryLog", spec := "historyLog", inPlace := ["internal/bytealg.Compare", "internal/bytealg.IndexByteString", "internal/abi.NoEscape", "slices.overlaps[quilt/api.Stored]"], unfollowed := true, recurses := true, named := ["internal/strconv.uint64pow10", "math/bits.deBruijn32tab", "math/bits.deBruijn64tab"], plainKeys := false, apart := false, laid := [("math/bits.deBruijn32tab", laid_math_bits_deBruijn32tab), ("math/bits.deBruijn64tab", laid_math_bits_deBruijn64tab), ("internal/strconv.uint64pow10", laid_internal_strconv_uint64pow10)], narrowed := true }
def HistoryLogUptoSaid : Prop := historyLogUptoRow.holds Tryz.pinned (OpenSpec.upto historyLogSpec)

/-- 'quiltlaw30.HistoryConnected', WHERE WHAT IT READS IS OF BULK AT MOST 1048576: true; the input reads as it did. -/
def historyConnectedUptoRow : OpenClaim := { program := "ytmkdlelpipefbaagreatdoor", sum := "5ff251163f7481d38b6b4618de15fb2fd1a2619ed5e8d1d3cd3704762148fd64", func := "quilt/quiltlaw30.HistoryConnected", spec := "historyConnected", inPlace := ["internal/bytealg.Compare", "internal/bytealg.IndexByteString", "internal/abi.NoEscape", "slices.overlaps[quilt/api.Stored]"], unfollowed := true, recurses := true, named := ["internal/strconv.uint64pow10", "math/bits.deBruijn32tab", "math/bits.deBruijn64tab"], plainKeys := false, apart := false, laid := [("math/bits.deBruijn32tab", laid_math_bits_deBruijn32tab), ("math/bits.deBruijn64tab", laid_math_bits_deBruijn64tab), ("internal/strconv.uint64pow10", laid_internal_strconv_uint64pow10)], narrowed := true }
def HistoryConnectedUptoSaid : Prop := historyConnectedUptoRow.holds Tryz.pinned (OpenSpec.upto historyConnectedSpec)

/-- 'quiltlaw30.HistorySwaps', WHERE WHAT IT READS IS OF BULK AT MOST 1048576: true; the input reads as it did. -/
def historySwapsUptoRow : OpenClaim := { program := "ytmkdlelpipefbaagreatdoor", sum := "5ff251163f7481d38b6b4618de15fb2fd1a2619ed5e8d1d3cd3704762148fd64", func := "quilt/quiltlaw30.HistorySwaps", spec := "historySwaps", inPlace := ["internal/bytealg.Compare", "internal/bytealg.IndexByteString", "internal/abi.NoEscape", "slices.overlaps[quilt/api.Stored]"], unfollowed := true, recurses := true, named := ["internal/strconv.uint64pow10", "math/bits.deBruijn32tab", "math/bits.deBruijn64tab"], plainKeys := false, apart := false, laid := [("math/bits.deBruijn32tab", laid_math_bits_deBruijn32tab), ("math/bits.deBruijn64tab", laid_math_bits_deBruijn64tab), ("internal/strconv.uint64pow10", laid_internal_strconv_uint64pow10)], narrowed := true }
def HistorySwapsUptoSaid : Prop := historySwapsUptoRow.holds Tryz.pinned (OpenSpec.upto historySwapsSpec)

/-- 'quiltlaw30.HistoryPrefixes', WHERE WHAT IT READS IS OF BULK AT MOST 1048576: true; the input reads as it did. -/
def historyPrefixesUptoRow : OpenClaim := { program := "ytmkdlelpipefbaagreatdoor", sum := "5ff251163f7481d38b6b4618de15fb2fd1a2619ed5e8d1d3cd3704762148fd64", func := "quilt/quiltlaw30.HistoryPrefixes", spec := "historyPrefixes", inPlace := ["internal/bytealg.Compare", "internal/bytealg.IndexByteString", "internal/abi.NoEscape", "slices.overlaps[quilt/api.Stored]"], unfollowed := true, recurses := true, named := ["internal/strconv.uint64pow10", "math/bits.deBruijn32tab", "math/bits.deBruijn64tab"], plainKeys := false, apart := false, laid := [("math/bits.deBruijn32tab", laid_math_bits_deBruijn32tab), ("math/bits.deBruijn64tab", laid_math_bits_deBruijn64tab), ("internal/strconv.uint64pow10", laid_internal_strconv_uint64pow10)], narrowed := true }
def HistoryPrefixesUptoSaid : Prop := historyPrefixesUptoRow.holds Tryz.pinned (OpenSpec.upto historyPrefixesSpec)

/-- 'quiltlaw30.HistoryMoves', WHERE WHAT IT READS IS OF BULK AT MOST 1048576: true; the input reads as it did. -/
def historyMovesUptoRow : OpenClaim := { program := "ytmkdlelpipefbaagreatdoor", sum := "5ff251163f7481d38b6b4618de15fb2fd1a2619ed5e8d1d3cd3704762148fd64", func := "quilt/quiltlaw30.HistoryMoves", spec := "historyMoves", inPlace := ["internal/bytealg.Compare", "internal/bytealg.IndexByteString", "internal/abi.NoEscape", "slices.overlaps[quilt/api.Stored]"], unfollowed := true, recurses := true, named := ["internal/strconv.uint64pow10", "math/bits.deBruijn32tab", "math/bits.deBruijn64tab"], plainKeys := false, apart := false, laid := [("math/bits.deBruijn32tab", laid_math_bits_deBruijn32tab), ("math/bits.deBruijn64tab", laid_math_bits_deBruijn64tab), ("internal/strconv.uint64pow10", laid_internal_strconv_uint64pow10)], narrowed := true }
def HistoryMovesUptoSaid : Prop := historyMovesUptoRow.holds Tryz.pinned (OpenSpec.upto historyMovesSpec)

end Rows
end Go.Proofs.YtmkdlelpipefbaaGreatDoor
