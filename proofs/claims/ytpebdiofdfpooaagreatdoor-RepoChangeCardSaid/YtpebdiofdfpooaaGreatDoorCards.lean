/-
  DERIVED. GIVEN WITH THE SEED: THE CARDS: each row of YtpebdiofdfpooaaGreatDoorRows.lean that lists a variable, with what it lists TIED to the program's text (the seventh form; the later family's looks); each row that meets fmt, with fmt's text TOLD by the authors' own Lean function (tested against real Go, not proved from fmt's source: count such statements apart). THE CARD IS WHAT COUNTS. Prove the row's statement (the work); the ties are given (YtpebdiofdfpooaaGreatDoorTie.lean); close each card by the builder's one call (the guide's Derived/Test/ToyasCard.lean, 'card_holds'). Laid BY PROGRAM, IN A SANDBOX (cutbox-door.mjs). By AI agents, Wed Nov 11 2026. No macro, syntax, notation, axiom, sorry.
-/
import Derived.Test.YtpebdiofdfpooaaGreatDoorRows
import GoSem.ClaimSeven
namespace Go.Proofs.YtpebdiofdfpooaaGreatDoor
namespace Rows

/-- THE TIED CARD OF 'quiltlaw36.RepoCheck'. -/
def repoCheckCard : Claim7 := { stood := { row := repoCheckRow, standIns := [], harness := (true, "1c3098e5c555ecf40be1539ddb12d18f1dffd27a1f2cb193b597c6cdd4f5e3af"), looks := false }, kinds := [], alts := [], laidByText := true, laidKinds := [.data, .data, .data], laidTests := true, laidLooks := .later }
def RepoCheckCardSaid : Prop := Claim7.holds Tryz.pinned (.plain (OpenSpec.ofChange repoCheckSpec)) repoCheckCard

/-- THE TIED CARD OF 'quiltlaw36.RepoCollects'. -/
def repoCollectsCard : Claim7 := { stood := { row := repoCollectsRow, standIns := [], harness := (true, "1c3098e5c555ecf40be1539ddb12d18f1dffd27a1f2cb193b597c6cdd4f5e3af"), looks := false }, kinds := [], alts := [], laidByText := true, laidKinds := [.data, .data, .data], laidTests := true, laidLooks := .later }
def RepoCollectsCardSaid : Prop := Claim7.holds Tryz.pinned (.plain (OpenSpec.ofChange repoCollectsSpec)) repoCollectsCard

/-- THE TIED CARD OF 'quiltlaw36.RepoChange'. -/
def repoChangeCard : Claim7 := { stood := { row := repoChangeRow, standIns := [], harness := (true, "1c3098e5c555ecf40be1539ddb12d18f1dffd27a1f2cb193b597c6cdd4f5e3af"), looks := false }, kinds := [], alts := [], laidByText := true, laidKinds := [.data, .data, .data], laidTests := true, laidLooks := .later }
def RepoChangeCardSaid : Prop := Claim7.holds Tryz.pinned (.plain (OpenSpec.ofChange repoChangeSpec)) repoChangeCard

/-- THE TIED CARD OF 'quiltlaw36.RepoMerges'. -/
def repoMergesCard : Claim7 := { stood := { row := repoMergesRow, standIns := [], harness := (true, "1c3098e5c555ecf40be1539ddb12d18f1dffd27a1f2cb193b597c6cdd4f5e3af"), looks := false }, kinds := [], alts := [], laidByText := true, laidKinds := [.data, .data, .data], laidTests := true, laidLooks := .later }
def RepoMergesCardSaid : Prop := Claim7.holds Tryz.pinned (.plain (OpenSpec.ofChange repoMergesSpec)) repoMergesCard

/-- THE TIED CARD OF 'quiltlaw36.RepoNames'. -/
def repoNamesCard : Claim7 := { stood := { row := repoNamesRow, standIns := [], harness := (true, "1c3098e5c555ecf40be1539ddb12d18f1dffd27a1f2cb193b597c6cdd4f5e3af"), looks := false }, kinds := [], alts := [], laidByText := true, laidKinds := [.data, .data, .data], laidTests := true, laidLooks := .later }
def RepoNamesCardSaid : Prop := Claim7.holds Tryz.pinned (.plain (OpenSpec.ofChange repoNamesSpec)) repoNamesCard

/-- THE TIED CARD OF 'quiltlaw36.RepoValid'. -/
def repoValidCard : Claim7 := { stood := { row := repoValidRow, standIns := [], harness := (true, "1c3098e5c555ecf40be1539ddb12d18f1dffd27a1f2cb193b597c6cdd4f5e3af"), looks := false }, kinds := [], alts := [], laidByText := true, laidKinds := [.data, .data, .data], laidTests := true, laidLooks := .later }
def RepoValidCardSaid : Prop := Claim7.holds Tryz.pinned (.plain (OpenSpec.ofChange repoValidSpec)) repoValidCard

/-- THE TIED CARD OF 'quiltlaw36.RepoIndependent'. -/
def repoIndependentCard : Claim7 := { stood := { row := repoIndependentRow, standIns := [], harness := (true, "1c3098e5c555ecf40be1539ddb12d18f1dffd27a1f2cb193b597c6cdd4f5e3af"), looks := false }, kinds := [], alts := [], laidByText := true, laidKinds := [.data, .data, .data], laidTests := true, laidLooks := .later }
def RepoIndependentCardSaid : Prop := Claim7.holds Tryz.pinned (.plain (OpenSpec.ofChange repoIndependentSpec)) repoIndependentCard

/-- THE TIED CARD OF 'quiltlaw36.RepoShares'. -/
def repoSharesCard : Claim7 := { stood := { row := repoSharesRow, standIns := [], harness := (true, "1c3098e5c555ecf40be1539ddb12d18f1dffd27a1f2cb193b597c6cdd4f5e3af"), looks := false }, kinds := [], alts := [], laidByText := true, laidKinds := [.data, .data, .data], laidTests := true, laidLooks := .later }
def RepoSharesCardSaid : Prop := Claim7.holds Tryz.pinned (.plain (OpenSpec.ofChange repoSharesSpec)) repoSharesCard

/-- THE TIED CARD OF 'quiltlaw36.RepoTags'. -/
def repoTagsCard : Claim7 := { stood := { row := repoTagsRow, standIns := [], harness := (true, "1c3098e5c555ecf40be1539ddb12d18f1dffd27a1f2cb193b597c6cdd4f5e3af"), looks := false }, kinds := [], alts := [], laidByText := true, laidKinds := [.data, .data, .data], laidTests := true, laidLooks := .later }
def RepoTagsCardSaid : Prop := Claim7.holds Tryz.pinned (.plain (OpenSpec.ofChange repoTagsSpec)) repoTagsCard

/-- THE SECOND FORM's CARD OF 'quiltlaw36.RepoCheck'. -/
def repoCheckUptoCard : Claim7 := { stood := { row := repoCheckUptoRow, standIns := [], harness := (true, "1c3098e5c555ecf40be1539ddb12d18f1dffd27a1f2cb193b597c6cdd4f5e3af"), looks := false }, kinds := [], alts := [], laidByText := true, laidKinds := [.data, .data, .data], laidTests := true, laidLooks := .later }
def RepoCheckUptoCardSaid : Prop := Claim7.holds Tryz.pinned (.plain (OpenSpec.upto repoCheckSpec)) repoCheckUptoCard

/-- THE SECOND FORM's CARD OF 'quiltlaw36.RepoCollects'. -/
def repoCollectsUptoCard : Claim7 := { stood := { row := repoCollectsUptoRow, standIns := [], harness := (true, "1c3098e5c555ecf40be1539ddb12d18f1dffd27a1f2cb193b597c6cdd4f5e3af"), looks := false }, kinds := [], alts := [], laidByText := true, laidKinds := [.data, .data, .data], laidTests := true, laidLooks := .later }
def RepoCollectsUptoCardSaid : Prop := Claim7.holds Tryz.pinned (.plain (OpenSpec.upto repoCollectsSpec)) repoCollectsUptoCard

/-- THE SECOND FORM's CARD OF 'quiltlaw36.RepoChange'. -/
def repoChangeUptoCard : Claim7 := { stood := { row := repoChangeUptoRow, standIns := [], harness := (true, "1c3098e5c555ecf40be1539ddb12d18f1dffd27a1f2cb193b597c6cdd4f5e3af"), looks := false }, kinds := [], alts := [], laidByText := true, laidKinds := [.data, .data, .data], laidTests := true, laidLooks := .later }
def RepoChangeUptoCardSaid : Prop := Claim7.holds Tryz.pinned (.plain (OpenSpec.upto repoChangeSpec)) repoChangeUptoCard

/-- THE SECOND FORM's CARD OF 'quiltlaw36.RepoMerges'. -/
def repoMergesUptoCard : Claim7 := { stood := { row := repoMergesUptoRow, standIns := [], harness := (true, "1c3098e5c555ecf40be1539ddb12d18f1dffd27a1f2cb193b597c6cdd4f5e3af"), looks := false }, kinds := [], alts := [], laidByText := true, laidKinds := [.data, .data, .data], laidTests := true, laidLooks := .later }
def RepoMergesUptoCardSaid : Prop := Claim7.holds Tryz.pinned (.plain (OpenSpec.upto repoMergesSpec)) repoMergesUptoCard

/-- THE SECOND FORM's CARD OF 'quiltlaw36.RepoNames'. -/
def repoNamesUptoCard : Claim7 := { stood := { row := repoNamesUptoRow, standIns := [], harness := (true, "1c3098e5c555ecf40be1539ddb12d18f1dffd27a1f2cb193b597c6cdd4f5e3af"), looks := false }, kinds := [], alts := [], laidByText := true, laidKinds := [.data, .data, .data], laidTests := true, laidLooks := .later }
def RepoNamesUptoCardSaid : Prop := Claim7.holds Tryz.pinned (.plain (OpenSpec.upto repoNamesSpec)) repoNamesUptoCard

/-- THE SECOND FORM's CARD OF 'quiltlaw36.RepoValid'. -/
def repoValidUptoCard : Claim7 := { stood := { row := repoValidUptoRow, standIns := [], harness := (true, "1c3098e5c555ecf40be1539ddb12d18f1dffd27a1f2cb193b597c6cdd4f5e3af"), looks := false }, kinds := [], alts := [], laidByText := true, laidKinds := [.data, .data, .data], laidTests := true, laidLooks := .later }
def RepoValidUptoCardSaid : Prop := Claim7.holds Tryz.pinned (.plain (OpenSpec.upto repoValidSpec)) repoValidUptoCard

/-- THE SECOND FORM's CARD OF 'quiltlaw36.RepoIndependent'. -/
def repoIndependentUptoCard : Claim7 := { stood := { row := repoIndependentUptoRow, standIns := [], harness := (true, "1c3098e5c555ecf40be1539ddb12d18f1dffd27a1f2cb193b597c6cdd4f5e3af"), looks := false }, kinds := [], alts := [], laidByText := true, laidKinds := [.data, .data, .data], laidTests := true, laidLooks := .later }
def RepoIndependentUptoCardSaid : Prop := Claim7.holds Tryz.pinned (.plain (OpenSpec.upto repoIndependentSpec)) repoIndependentUptoCard

/-- THE SECOND FORM's CARD OF 'quiltlaw36.RepoShares'. -/
def repoSharesUptoCard : Claim7 := { stood := { row := repoSharesUptoRow, standIns := [], harness := (true, "1c3098e5c555ecf40be1539ddb12d18f1dffd27a1f2cb193b597c6cdd4f5e3af"), looks := false }, kinds := [], alts := [], laidByText := true, laidKinds := [.data, .data, .data], laidTests := true, laidLooks := .later }
def RepoSharesUptoCardSaid : Prop := Claim7.holds Tryz.pinned (.plain (OpenSpec.upto repoSharesSpec)) repoSharesUptoCard

/-- THE SECOND FORM's CARD OF 'quiltlaw36.RepoTags'. -/
def repoTagsUptoCard : Claim7 := { stood := { row := repoTagsUptoRow, standIns := [], harness := (true, "1c3098e5c555ecf40be1539ddb12d18f1dffd27a1f2cb193b597c6cdd4f5e3af"), looks := false }, kinds := [], alts := [], laidByText := true, laidKinds := [.data, .data, .data], laidTests := true, laidLooks := .later }
def RepoTagsUptoCardSaid : Prop := Claim7.holds Tryz.pinned (.plain (OpenSpec.upto repoTagsSpec)) repoTagsUptoCard
end Rows
end Go.Proofs.YtpebdiofdfpooaaGreatDoor
