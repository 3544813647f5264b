/-
  DERIVED. GIVEN WITH THE SEED: THE CARDS: each row of YtjmpmjmobbofgaaGreatDoorRows.lean that lists a variable, with what it lists TIED to the program's text (the seventh form; the later family's looks); each row that meets fmt, with fmt's text TOLD by the authors' own Lean function (tested against real Go, not proved from fmt's source: count such statements apart). THE CARD IS WHAT COUNTS. Prove the row's statement (the work); the ties are given (YtjmpmjmobbofgaaGreatDoorTie.lean); close each card by the builder's one call (the guide's Derived/Test/ToyasCard.lean, 'card_holds'). Laid BY PROGRAM, IN A SANDBOX (cutbox-door.mjs). By AI agents, Wed Nov 11 2026. No macro, syntax, notation, axiom, sorry.
-/
import Derived.Test.YtjmpmjmobbofgaaGreatDoorRows
import GoSem.ClaimSeven
namespace Go.Proofs.YtjmpmjmobbofgaaGreatDoor
namespace Rows

/-- THE TIED CARD OF 'quiltlaw17.PatchsetOrder'. -/
def patchsetOrderCard : Claim7 := { stood := { row := patchsetOrderRow, standIns := [], harness := (true, "aafae126a7bf52afb04bd9672374637e6d39dd91b12a870496ec703f50db92bf"), looks := false }, kinds := [], alts := [], laidByText := true, laidKinds := [.data, .data, .data], laidTests := true, laidLooks := .later }
def PatchsetOrderCardSaid : Prop := Claim7.holds Tryz.pinned (.plain (OpenSpec.ofChange patchsetOrderSpec)) patchsetOrderCard

/-- THE TIED CARD OF 'quiltlaw17.PatchsetUnion'. -/
def patchsetUnionCard : Claim7 := { stood := { row := patchsetUnionRow, standIns := [], harness := (true, "aafae126a7bf52afb04bd9672374637e6d39dd91b12a870496ec703f50db92bf"), looks := false }, kinds := [], alts := [], laidByText := true, laidKinds := [.data, .data, .data], laidTests := true, laidLooks := .later }
def PatchsetUnionCardSaid : Prop := Claim7.holds Tryz.pinned (.plain (OpenSpec.ofChange patchsetUnionSpec)) patchsetUnionCard

/-- THE TIED CARD OF 'quiltlaw17.PatchsetUnions'. -/
def patchsetUnionsCard : Claim7 := { stood := { row := patchsetUnionsRow, standIns := [], harness := (true, "aafae126a7bf52afb04bd9672374637e6d39dd91b12a870496ec703f50db92bf"), looks := false }, kinds := [], alts := [], laidByText := true, laidKinds := [.data, .data, .data], laidTests := true, laidLooks := .later }
def PatchsetUnionsCardSaid : Prop := Claim7.holds Tryz.pinned (.plain (OpenSpec.ofChange patchsetUnionsSpec)) patchsetUnionsCard

/-- THE TIED CARD OF 'quiltlaw37.PickTwins'. -/
def pickTwinsCard : Claim7 := { stood := { row := pickTwinsRow, standIns := [], harness := (true, "aafae126a7bf52afb04bd9672374637e6d39dd91b12a870496ec703f50db92bf"), looks := false }, kinds := [], alts := [], laidByText := true, laidKinds := [.data, .data, .data], laidTests := true, laidLooks := .later }
def PickTwinsCardSaid : Prop := Claim7.holds Tryz.pinned (.plain (OpenSpec.ofChange pickTwinsSpec)) pickTwinsCard

/-- THE TIED CARD OF 'quiltlaw37.PickTwice'. -/
def pickTwiceCard : Claim7 := { stood := { row := pickTwiceRow, standIns := [], harness := (true, "aafae126a7bf52afb04bd9672374637e6d39dd91b12a870496ec703f50db92bf"), looks := false }, kinds := [], alts := [], laidByText := true, laidKinds := [.data, .data, .data], laidTests := true, laidLooks := .later }
def PickTwiceCardSaid : Prop := Claim7.holds Tryz.pinned (.plain (OpenSpec.ofChange pickTwiceSpec)) pickTwiceCard

/-- THE TIED CARD OF 'quiltlaw37.PickPick'. -/
def pickPickCard : Claim7 := { stood := { row := pickPickRow, standIns := [], harness := (true, "aafae126a7bf52afb04bd9672374637e6d39dd91b12a870496ec703f50db92bf"), looks := false }, kinds := [], alts := [], laidByText := true, laidKinds := [.data, .data, .data], laidTests := true, laidLooks := .later }
def PickPickCardSaid : Prop := Claim7.holds Tryz.pinned (.plain (OpenSpec.ofChange pickPickSpec)) pickPickCard

/-- THE TIED CARD OF 'quiltlaw37.PickAll'. -/
def pickAllCard : Claim7 := { stood := { row := pickAllRow, standIns := [], harness := (true, "aafae126a7bf52afb04bd9672374637e6d39dd91b12a870496ec703f50db92bf"), looks := false }, kinds := [], alts := [], laidByText := true, laidKinds := [.data, .data, .data], laidTests := true, laidLooks := .later }
def PickAllCardSaid : Prop := Claim7.holds Tryz.pinned (.plain (OpenSpec.ofChange pickAllSpec)) pickAllCard

/-- THE TIED CARD OF 'quiltlaw37.PickAgain'. -/
def pickAgainCard : Claim7 := { stood := { row := pickAgainRow, standIns := [], harness := (true, "aafae126a7bf52afb04bd9672374637e6d39dd91b12a870496ec703f50db92bf"), looks := false }, kinds := [], alts := [], laidByText := true, laidKinds := [.data, .data, .data], laidTests := true, laidLooks := .later }
def PickAgainCardSaid : Prop := Claim7.holds Tryz.pinned (.plain (OpenSpec.ofChange pickAgainSpec)) pickAgainCard

/-- THE TIED CARD OF 'quiltlaw37.PickSets'. -/
def pickSetsCard : Claim7 := { stood := { row := pickSetsRow, standIns := [], harness := (true, "aafae126a7bf52afb04bd9672374637e6d39dd91b12a870496ec703f50db92bf"), looks := false }, kinds := [], alts := [], laidByText := true, laidKinds := [.data, .data, .data], laidTests := true, laidLooks := .later }
def PickSetsCardSaid : Prop := Claim7.holds Tryz.pinned (.plain (OpenSpec.ofChange pickSetsSpec)) pickSetsCard

/-- THE TIED CARD OF 'quiltlaw37.PickCommon'. -/
def pickCommonCard : Claim7 := { stood := { row := pickCommonRow, standIns := [], harness := (true, "aafae126a7bf52afb04bd9672374637e6d39dd91b12a870496ec703f50db92bf"), looks := false }, kinds := [], alts := [], laidByText := true, laidKinds := [.data, .data, .data], laidTests := true, laidLooks := .later }
def PickCommonCardSaid : Prop := Claim7.holds Tryz.pinned (.plain (OpenSpec.ofChange pickCommonSpec)) pickCommonCard

/-- THE SECOND FORM's CARD OF 'quiltlaw17.PatchsetOrder'. -/
def patchsetOrderUptoCard : Claim7 := { stood := { row := patchsetOrderUptoRow, standIns := [], harness := (true, "aafae126a7bf52afb04bd9672374637e6d39dd91b12a870496ec703f50db92bf"), looks := false }, kinds := [], alts := [], laidByText := true, laidKinds := [.data, .data, .data], laidTests := true, laidLooks := .later }
def PatchsetOrderUptoCardSaid : Prop := Claim7.holds Tryz.pinned (.plain (OpenSpec.upto patchsetOrderSpec)) patchsetOrderUptoCard

/-- THE SECOND FORM's CARD OF 'quiltlaw17.PatchsetUnion'. -/
def patchsetUnionUptoCard : Claim7 := { stood := { row := patchsetUnionUptoRow, standIns := [], harness := (true, "aafae126a7bf52afb04bd9672374637e6d39dd91b12a870496ec703f50db92bf"), looks := false }, kinds := [], alts := [], laidByText := true, laidKinds := [.data, .data, .data], laidTests := true, laidLooks := .later }
def PatchsetUnionUptoCardSaid : Prop := Claim7.holds Tryz.pinned (.plain (OpenSpec.upto patchsetUnionSpec)) patchsetUnionUptoCard

/-- THE SECOND FORM's CARD OF 'quiltlaw17.PatchsetUnions'. -/
def patchsetUnionsUptoCard : Claim7 := { stood := { row := patchsetUnionsUptoRow, standIns := [], harness := (true, "aafae126a7bf52afb04bd9672374637e6d39dd91b12a870496ec703f50db92bf"), looks := false }, kinds := [], alts := [], laidByText := true, laidKinds := [.data, .data, .data], laidTests := true, laidLooks := .later }
def PatchsetUnionsUptoCardSaid : Prop := Claim7.holds Tryz.pinned (.plain (OpenSpec.upto patchsetUnionsSpec)) patchsetUnionsUptoCard

/-- THE SECOND FORM's CARD OF 'quiltlaw37.PickTwins'. -/
def pickTwinsUptoCard : Claim7 := { stood := { row := pickTwinsUptoRow, standIns := [], harness := (true, "aafae126a7bf52afb04bd9672374637e6d39dd91b12a870496ec703f50db92bf"), looks := false }, kinds := [], alts := [], laidByText := true, laidKinds := [.data, .data, .data], laidTests := true, laidLooks := .later }
def PickTwinsUptoCardSaid : Prop := Claim7.holds Tryz.pinned (.plain (OpenSpec.upto pickTwinsSpec)) pickTwinsUptoCard

/-- THE SECOND FORM's CARD OF 'quiltlaw37.PickTwice'. -/
def pickTwiceUptoCard : Claim7 := { stood := { row := pickTwiceUptoRow, standIns := [], harness := (true, "aafae126a7bf52afb04bd9672374637e6d39dd91b12a870496ec703f50db92bf"), looks := false }, kinds := [], alts := [], laidByText := true, laidKinds := [.data, .data, .data], laidTests := true, laidLooks := .later }
def PickTwiceUptoCardSaid : Prop := Claim7.holds Tryz.pinned (.plain (OpenSpec.upto pickTwiceSpec)) pickTwiceUptoCard

/-- THE SECOND FORM's CARD OF 'quiltlaw37.PickPick'. -/
def pickPickUptoCard : Claim7 := { stood := { row := pickPickUptoRow, standIns := [], harness := (true, "aafae126a7bf52afb04bd9672374637e6d39dd91b12a870496ec703f50db92bf"), looks := false }, kinds := [], alts := [], laidByText := true, laidKinds := [.data, .data, .data], laidTests := true, laidLooks := .later }
def PickPickUptoCardSaid : Prop := Claim7.holds Tryz.pinned (.plain (OpenSpec.upto pickPickSpec)) pickPickUptoCard

/-- THE SECOND FORM's CARD OF 'quiltlaw37.PickAll'. -/
def pickAllUptoCard : Claim7 := { stood := { row := pickAllUptoRow, standIns := [], harness := (true, "aafae126a7bf52afb04bd9672374637e6d39dd91b12a870496ec703f50db92bf"), looks := false }, kinds := [], alts := [], laidByText := true, laidKinds := [.data, .data, .data], laidTests := true, laidLooks := .later }
def PickAllUptoCardSaid : Prop := Claim7.holds Tryz.pinned (.plain (OpenSpec.upto pickAllSpec)) pickAllUptoCard

/-- THE SECOND FORM's CARD OF 'quiltlaw37.PickAgain'. -/
def pickAgainUptoCard : Claim7 := { stood := { row := pickAgainUptoRow, standIns := [], harness := (true, "aafae126a7bf52afb04bd9672374637e6d39dd91b12a870496ec703f50db92bf"), looks := false }, kinds := [], alts := [], laidByText := true, laidKinds := [.data, .data, .data], laidTests := true, laidLooks := .later }
def PickAgainUptoCardSaid : Prop := Claim7.holds Tryz.pinned (.plain (OpenSpec.upto pickAgainSpec)) pickAgainUptoCard

/-- THE SECOND FORM's CARD OF 'quiltlaw37.PickSets'. -/
def pickSetsUptoCard : Claim7 := { stood := { row := pickSetsUptoRow, standIns := [], harness := (true, "aafae126a7bf52afb04bd9672374637e6d39dd91b12a870496ec703f50db92bf"), looks := false }, kinds := [], alts := [], laidByText := true, laidKinds := [.data, .data, .data], laidTests := true, laidLooks := .later }
def PickSetsUptoCardSaid : Prop := Claim7.holds Tryz.pinned (.plain (OpenSpec.upto pickSetsSpec)) pickSetsUptoCard

/-- THE SECOND FORM's CARD OF 'quiltlaw37.PickCommon'. -/
def pickCommonUptoCard : Claim7 := { stood := { row := pickCommonUptoRow, standIns := [], harness := (true, "aafae126a7bf52afb04bd9672374637e6d39dd91b12a870496ec703f50db92bf"), looks := false }, kinds := [], alts := [], laidByText := true, laidKinds := [.data, .data, .data], laidTests := true, laidLooks := .later }
def PickCommonUptoCardSaid : Prop := Claim7.holds Tryz.pinned (.plain (OpenSpec.upto pickCommonSpec)) pickCommonUptoCard
end Rows
end Go.Proofs.YtjmpmjmobbofgaaGreatDoor
