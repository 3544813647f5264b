/-
  DERIVED. GIVEN WITH THE SEED: THE CARDS: each row of YtddlffkdpocmhaaGreatDoorRows.lean that lists a variable, with what it lists TIED to the program's text (the seventh form; the later family's looks); each row that meets fmt, with fmt's text TOLD by the authors' own Lean function (tested against real Go, not proved from fmt's source: count such statements apart). THE CARD IS WHAT COUNTS. Prove the row's statement (the work); the ties are given (YtddlffkdpocmhaaGreatDoorTie.lean); close each card by the builder's one call (the guide's Derived/Test/ToyasCard.lean, 'card_holds'). Laid BY PROGRAM, IN A SANDBOX (cutbox-door.mjs). By AI agents, Wed Nov 11 2026. No macro, syntax, notation, axiom, sorry.
-/
import Derived.Test.YtddlffkdpocmhaaGreatDoorRows
import GoSem.ClaimSeven
namespace Go.Proofs.YtddlffkdpocmhaaGreatDoor
namespace Rows

/-- THE TIED CARD OF 'quiltlaw31.BisectBound'. -/
def bisectBoundCard : Claim7 := { stood := { row := bisectBoundRow, standIns := [], harness := (true, "37e94d7be5a5332cbf3a4ccfa37bc1b621ec9dcb98222fea382190ebd3fb8fd2"), looks := false }, kinds := [], alts := [], laidByText := true, laidKinds := [.data, .data, .data], laidTests := true, laidLooks := .later }
def BisectBoundCardSaid : Prop := Claim7.holds Tryz.pinned (.plain (OpenSpec.ofChange bisectBoundSpec)) bisectBoundCard

/-- THE TIED CARD OF 'quiltlaw31.BisectDeepest'. -/
def bisectDeepestCard : Claim7 := { stood := { row := bisectDeepestRow, standIns := [], harness := (true, "37e94d7be5a5332cbf3a4ccfa37bc1b621ec9dcb98222fea382190ebd3fb8fd2"), looks := false }, kinds := [], alts := [], laidByText := true, laidKinds := [.data, .data, .data], laidTests := true, laidLooks := .later }
def BisectDeepestCardSaid : Prop := Claim7.holds Tryz.pinned (.plain (OpenSpec.ofChange bisectDeepestSpec)) bisectDeepestCard

/-- THE TIED CARD OF 'quiltlaw31.BisectState'. -/
def bisectStateCard : Claim7 := { stood := { row := bisectStateRow, standIns := [], harness := (true, "37e94d7be5a5332cbf3a4ccfa37bc1b621ec9dcb98222fea382190ebd3fb8fd2"), looks := false }, kinds := [], alts := [], laidByText := true, laidKinds := [.data, .data, .data], laidTests := true, laidLooks := .later }
def BisectStateCardSaid : Prop := Claim7.holds Tryz.pinned (.plain (OpenSpec.ofChange bisectStateSpec)) bisectStateCard

/-- THE TIED CARD OF 'quiltlaw31.BisectReached'. -/
def bisectReachedCard : Claim7 := { stood := { row := bisectReachedRow, standIns := [], harness := (true, "37e94d7be5a5332cbf3a4ccfa37bc1b621ec9dcb98222fea382190ebd3fb8fd2"), looks := false }, kinds := [], alts := [], laidByText := true, laidKinds := [.data, .data, .data], laidTests := true, laidLooks := .later }
def BisectReachedCardSaid : Prop := Claim7.holds Tryz.pinned (.plain (OpenSpec.ofChange bisectReachedSpec)) bisectReachedCard

/-- THE TIED CARD OF 'quiltlaw31.BisectFinds'. -/
def bisectFindsCard : Claim7 := { stood := { row := bisectFindsRow, standIns := [], harness := (true, "37e94d7be5a5332cbf3a4ccfa37bc1b621ec9dcb98222fea382190ebd3fb8fd2"), looks := false }, kinds := [], alts := [], laidByText := true, laidKinds := [.data, .data, .data], laidTests := true, laidLooks := .later }
def BisectFindsCardSaid : Prop := Claim7.holds Tryz.pinned (.plain (OpenSpec.ofChange bisectFindsSpec)) bisectFindsCard

/-- THE TIED CARD OF 'quiltlaw31.BisectAnswers'. -/
def bisectAnswersCard : Claim7 := { stood := { row := bisectAnswersRow, standIns := [], harness := (true, "37e94d7be5a5332cbf3a4ccfa37bc1b621ec9dcb98222fea382190ebd3fb8fd2"), looks := false }, kinds := [], alts := [], laidByText := true, laidKinds := [.data, .data, .data], laidTests := true, laidLooks := .later }
def BisectAnswersCardSaid : Prop := Claim7.holds Tryz.pinned (.plain (OpenSpec.ofChange bisectAnswersSpec)) bisectAnswersCard

/-- THE TIED CARD OF 'quiltlaw17.PatchsetCheck'. -/
def patchsetCheckCard : Claim7 := { stood := { row := patchsetCheckRow, standIns := [], harness := (true, "37e94d7be5a5332cbf3a4ccfa37bc1b621ec9dcb98222fea382190ebd3fb8fd2"), looks := false }, kinds := [], alts := [], laidByText := true, laidKinds := [.data, .data, .data], laidTests := true, laidLooks := .later }
def PatchsetCheckCardSaid : Prop := Claim7.holds Tryz.pinned (.plain (OpenSpec.ofChange patchsetCheckSpec)) patchsetCheckCard

/-- THE TIED CARD OF 'quiltlaw17.PatchsetAdd'. -/
def patchsetAddCard : Claim7 := { stood := { row := patchsetAddRow, standIns := [], harness := (true, "37e94d7be5a5332cbf3a4ccfa37bc1b621ec9dcb98222fea382190ebd3fb8fd2"), looks := false }, kinds := [], alts := [], laidByText := true, laidKinds := [.data, .data, .data], laidTests := true, laidLooks := .later }
def PatchsetAddCardSaid : Prop := Claim7.holds Tryz.pinned (.plain (OpenSpec.ofChange patchsetAddSpec)) patchsetAddCard

/-- THE TIED CARD OF 'quiltlaw17.PatchsetGraph'. -/
def patchsetGraphCard : Claim7 := { stood := { row := patchsetGraphRow, standIns := [], harness := (true, "37e94d7be5a5332cbf3a4ccfa37bc1b621ec9dcb98222fea382190ebd3fb8fd2"), looks := false }, kinds := [], alts := [], laidByText := true, laidKinds := [.data, .data, .data], laidTests := true, laidLooks := .later }
def PatchsetGraphCardSaid : Prop := Claim7.holds Tryz.pinned (.plain (OpenSpec.ofChange patchsetGraphSpec)) patchsetGraphCard

/-- THE TIED CARD OF 'quiltlaw17.PatchsetAdded'. -/
def patchsetAddedCard : Claim7 := { stood := { row := patchsetAddedRow, standIns := [], harness := (true, "37e94d7be5a5332cbf3a4ccfa37bc1b621ec9dcb98222fea382190ebd3fb8fd2"), looks := false }, kinds := [], alts := [], laidByText := true, laidKinds := [.data, .data, .data], laidTests := true, laidLooks := .later }
def PatchsetAddedCardSaid : Prop := Claim7.holds Tryz.pinned (.plain (OpenSpec.ofChange patchsetAddedSpec)) patchsetAddedCard

/-- THE TIED CARD OF 'quiltlaw17.PatchsetClosed'. -/
def patchsetClosedCard : Claim7 := { stood := { row := patchsetClosedRow, standIns := [], harness := (true, "37e94d7be5a5332cbf3a4ccfa37bc1b621ec9dcb98222fea382190ebd3fb8fd2"), looks := false }, kinds := [], alts := [], laidByText := true, laidKinds := [.data, .data, .data], laidTests := true, laidLooks := .later }
def PatchsetClosedCardSaid : Prop := Claim7.holds Tryz.pinned (.plain (OpenSpec.ofChange patchsetClosedSpec)) patchsetClosedCard

/-- THE TIED CARD OF 'quiltlaw17.PatchsetDual'. -/
def patchsetDualCard : Claim7 := { stood := { row := patchsetDualRow, standIns := [], harness := (true, "37e94d7be5a5332cbf3a4ccfa37bc1b621ec9dcb98222fea382190ebd3fb8fd2"), looks := false }, kinds := [], alts := [], laidByText := true, laidKinds := [.data, .data, .data], laidTests := true, laidLooks := .later }
def PatchsetDualCardSaid : Prop := Claim7.holds Tryz.pinned (.plain (OpenSpec.ofChange patchsetDualSpec)) patchsetDualCard

/-- THE SECOND FORM's CARD OF 'quiltlaw31.BisectBound'. -/
def bisectBoundUptoCard : Claim7 := { stood := { row := bisectBoundUptoRow, standIns := [], harness := (true, "37e94d7be5a5332cbf3a4ccfa37bc1b621ec9dcb98222fea382190ebd3fb8fd2"), looks := false }, kinds := [], alts := [], laidByText := true, laidKinds := [.data, .data, .data], laidTests := true, laidLooks := .later }
def BisectBoundUptoCardSaid : Prop := Claim7.holds Tryz.pinned (.plain (OpenSpec.upto bisectBoundSpec)) bisectBoundUptoCard

/-- THE SECOND FORM's CARD OF 'quiltlaw31.BisectDeepest'. -/
def bisectDeepestUptoCard : Claim7 := { stood := { row := bisectDeepestUptoRow, standIns := [], harness := (true, "37e94d7be5a5332cbf3a4ccfa37bc1b621ec9dcb98222fea382190ebd3fb8fd2"), looks := false }, kinds := [], alts := [], laidByText := true, laidKinds := [.data, .data, .data], laidTests := true, laidLooks := .later }
def BisectDeepestUptoCardSaid : Prop := Claim7.holds Tryz.pinned (.plain (OpenSpec.upto bisectDeepestSpec)) bisectDeepestUptoCard

/-- THE SECOND FORM's CARD OF 'quiltlaw31.BisectState'. -/
def bisectStateUptoCard : Claim7 := { stood := { row := bisectStateUptoRow, standIns := [], harness := (true, "37e94d7be5a5332cbf3a4ccfa37bc1b621ec9dcb98222fea382190ebd3fb8fd2"), looks := false }, kinds := [], alts := [], laidByText := true, laidKinds := [.data, .data, .data], laidTests := true, laidLooks := .later }
def BisectStateUptoCardSaid : Prop := Claim7.holds Tryz.pinned (.plain (OpenSpec.upto bisectStateSpec)) bisectStateUptoCard

/-- THE SECOND FORM's CARD OF 'quiltlaw31.BisectReached'. -/
def bisectReachedUptoCard : Claim7 := { stood := { row := bisectReachedUptoRow, standIns := [], harness := (true, "37e94d7be5a5332cbf3a4ccfa37bc1b621ec9dcb98222fea382190ebd3fb8fd2"), looks := false }, kinds := [], alts := [], laidByText := true, laidKinds := [.data, .data, .data], laidTests := true, laidLooks := .later }
def BisectReachedUptoCardSaid : Prop := Claim7.holds Tryz.pinned (.plain (OpenSpec.upto bisectReachedSpec)) bisectReachedUptoCard

/-- THE SECOND FORM's CARD OF 'quiltlaw31.BisectFinds'. -/
def bisectFindsUptoCard : Claim7 := { stood := { row := bisectFindsUptoRow, standIns := [], harness := (true, "37e94d7be5a5332cbf3a4ccfa37bc1b621ec9dcb98222fea382190ebd3fb8fd2"), looks := false }, kinds := [], alts := [], laidByText := true, laidKinds := [.data, .data, .data], laidTests := true, laidLooks := .later }
def BisectFindsUptoCardSaid : Prop := Claim7.holds Tryz.pinned (.plain (OpenSpec.upto bisectFindsSpec)) bisectFindsUptoCard

/-- THE SECOND FORM's CARD OF 'quiltlaw31.BisectAnswers'. -/
def bisectAnswersUptoCard : Claim7 := { stood := { row := bisectAnswersUptoRow, standIns := [], harness := (true, "37e94d7be5a5332cbf3a4ccfa37bc1b621ec9dcb98222fea382190ebd3fb8fd2"), looks := false }, kinds := [], alts := [], laidByText := true, laidKinds := [.data, .data, .data], laidTests := true, laidLooks := .later }
def BisectAnswersUptoCardSaid : Prop := Claim7.holds Tryz.pinned (.plain (OpenSpec.upto bisectAnswersSpec)) bisectAnswersUptoCard

/-- THE SECOND FORM's CARD OF 'quiltlaw17.PatchsetCheck'. -/
def patchsetCheckUptoCard : Claim7 := { stood := { row := patchsetCheckUptoRow, standIns := [], harness := (true, "37e94d7be5a5332cbf3a4ccfa37bc1b621ec9dcb98222fea382190ebd3fb8fd2"), looks := false }, kinds := [], alts := [], laidByText := true, laidKinds := [.data, .data, .data], laidTests := true, laidLooks := .later }
def PatchsetCheckUptoCardSaid : Prop := Claim7.holds Tryz.pinned (.plain (OpenSpec.upto patchsetCheckSpec)) patchsetCheckUptoCard

/-- THE SECOND FORM's CARD OF 'quiltlaw17.PatchsetAdd'. -/
def patchsetAddUptoCard : Claim7 := { stood := { row := patchsetAddUptoRow, standIns := [], harness := (true, "37e94d7be5a5332cbf3a4ccfa37bc1b621ec9dcb98222fea382190ebd3fb8fd2"), looks := false }, kinds := [], alts := [], laidByText := true, laidKinds := [.data, .data, .data], laidTests := true, laidLooks := .later }
def PatchsetAddUptoCardSaid : Prop := Claim7.holds Tryz.pinned (.plain (OpenSpec.upto patchsetAddSpec)) patchsetAddUptoCard

/-- THE SECOND FORM's CARD OF 'quiltlaw17.PatchsetGraph'. -/
def patchsetGraphUptoCard : Claim7 := { stood := { row := patchsetGraphUptoRow, standIns := [], harness := (true, "37e94d7be5a5332cbf3a4ccfa37bc1b621ec9dcb98222fea382190ebd3fb8fd2"), looks := false }, kinds := [], alts := [], laidByText := true, laidKinds := [.data, .data, .data], laidTests := true, laidLooks := .later }
def PatchsetGraphUptoCardSaid : Prop := Claim7.holds Tryz.pinned (.plain (OpenSpec.upto patchsetGraphSpec)) patchsetGraphUptoCard

/-- THE SECOND FORM's CARD OF 'quiltlaw17.PatchsetAdded'. -/
def patchsetAddedUptoCard : Claim7 := { stood := { row := patchsetAddedUptoRow, standIns := [], harness := (true, "37e94d7be5a5332cbf3a4ccfa37bc1b621ec9dcb98222fea382190ebd3fb8fd2"), looks := false }, kinds := [], alts := [], laidByText := true, laidKinds := [.data, .data, .data], laidTests := true, laidLooks := .later }
def PatchsetAddedUptoCardSaid : Prop := Claim7.holds Tryz.pinned (.plain (OpenSpec.upto patchsetAddedSpec)) patchsetAddedUptoCard

/-- THE SECOND FORM's CARD OF 'quiltlaw17.PatchsetClosed'. -/
def patchsetClosedUptoCard : Claim7 := { stood := { row := patchsetClosedUptoRow, standIns := [], harness := (true, "37e94d7be5a5332cbf3a4ccfa37bc1b621ec9dcb98222fea382190ebd3fb8fd2"), looks := false }, kinds := [], alts := [], laidByText := true, laidKinds := [.data, .data, .data], laidTests := true, laidLooks := .later }
def PatchsetClosedUptoCardSaid : Prop := Claim7.holds Tryz.pinned (.plain (OpenSpec.upto patchsetClosedSpec)) patchsetClosedUptoCard

/-- THE SECOND FORM's CARD OF 'quiltlaw17.PatchsetDual'. -/
def patchsetDualUptoCard : Claim7 := { stood := { row := patchsetDualUptoRow, standIns := [], harness := (true, "37e94d7be5a5332cbf3a4ccfa37bc1b621ec9dcb98222fea382190ebd3fb8fd2"), looks := false }, kinds := [], alts := [], laidByText := true, laidKinds := [.data, .data, .data], laidTests := true, laidLooks := .later }
def PatchsetDualUptoCardSaid : Prop := Claim7.holds Tryz.pinned (.plain (OpenSpec.upto patchsetDualSpec)) patchsetDualUptoCard
end Rows
end Go.Proofs.YtddlffkdpocmhaaGreatDoor
