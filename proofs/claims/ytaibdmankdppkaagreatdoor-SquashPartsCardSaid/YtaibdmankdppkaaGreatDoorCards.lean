/-
  DERIVED. GIVEN WITH THE SEED: THE CARDS: each row of YtaibdmankdppkaaGreatDoorRows.lean that lists a variable, with what it lists TIED to the program's text (the seventh form; the later family's looks); each row that meets fmt, with fmt's text TOLD by the authors' own Lean function (tested against real Go, not proved from fmt's source: count such statements apart). THE CARD IS WHAT COUNTS. Prove the row's statement (the work); the ties are given (YtaibdmankdppkaaGreatDoorTie.lean); close each card by the builder's one call (the guide's Derived/Test/ToyasCard.lean, 'card_holds'). Laid BY PROGRAM, IN A SANDBOX (cutbox-door.mjs). By AI agents, Wed Nov 11 2026. No macro, syntax, notation, axiom, sorry.
-/
import Derived.Test.YtaibdmankdppkaaGreatDoorRows
import GoSem.ClaimSeven
namespace Go.Proofs.YtaibdmankdppkaaGreatDoor
namespace Rows

/-- THE TIED CARD OF 'quiltlaw29.SquashSquash'. -/
def squashSquashCard : Claim7 := { stood := { row := squashSquashRow, standIns := [], harness := (true, "03ad0f6fe76609f317029dc4180d51bdc081fac14b5bbc7eaffb1d1e1e11ab0f"), looks := false }, kinds := [], alts := [], laidByText := true, laidKinds := [.data, .data, .data], laidTests := true, laidLooks := .later }
def SquashSquashCardSaid : Prop := Claim7.holds Tryz.pinned (.plain (OpenSpec.ofChange squashSquashSpec)) squashSquashCard

/-- THE TIED CARD OF 'quiltlaw29.SquashOne'. -/
def squashOneCard : Claim7 := { stood := { row := squashOneRow, standIns := [], harness := (true, "03ad0f6fe76609f317029dc4180d51bdc081fac14b5bbc7eaffb1d1e1e11ab0f"), looks := false }, kinds := [], alts := [], laidByText := true, laidKinds := [.data, .data, .data], laidTests := true, laidLooks := .later }
def SquashOneCardSaid : Prop := Claim7.holds Tryz.pinned (.plain (OpenSpec.ofChange squashOneSpec)) squashOneCard

/-- THE TIED CARD OF 'quiltlaw29.SquashSplit'. -/
def squashSplitCard : Claim7 := { stood := { row := squashSplitRow, standIns := [], harness := (true, "03ad0f6fe76609f317029dc4180d51bdc081fac14b5bbc7eaffb1d1e1e11ab0f"), looks := false }, kinds := [], alts := [], laidByText := true, laidKinds := [.data, .data, .data], laidTests := true, laidLooks := .later }
def SquashSplitCardSaid : Prop := Claim7.holds Tryz.pinned (.plain (OpenSpec.ofChange squashSplitSpec)) squashSplitCard

/-- THE TIED CARD OF 'quiltlaw29.SquashSets'. -/
def squashSetsCard : Claim7 := { stood := { row := squashSetsRow, standIns := [], harness := (true, "03ad0f6fe76609f317029dc4180d51bdc081fac14b5bbc7eaffb1d1e1e11ab0f"), looks := false }, kinds := [], alts := [], laidByText := true, laidKinds := [.data, .data, .data], laidTests := true, laidLooks := .later }
def SquashSetsCardSaid : Prop := Claim7.holds Tryz.pinned (.plain (OpenSpec.ofChange squashSetsSpec)) squashSetsCard

/-- THE TIED CARD OF 'quiltlaw29.SquashAtoms'. -/
def squashAtomsCard : Claim7 := { stood := { row := squashAtomsRow, standIns := [], harness := (true, "03ad0f6fe76609f317029dc4180d51bdc081fac14b5bbc7eaffb1d1e1e11ab0f"), looks := false }, kinds := [], alts := [], laidByText := true, laidKinds := [.data, .data, .data], laidTests := true, laidLooks := .later }
def SquashAtomsCardSaid : Prop := Claim7.holds Tryz.pinned (.plain (OpenSpec.ofChange squashAtomsSpec)) squashAtomsCard

/-- THE TIED CARD OF 'quiltlaw29.SquashParts'. -/
def squashPartsCard : Claim7 := { stood := { row := squashPartsRow, standIns := [], harness := (true, "03ad0f6fe76609f317029dc4180d51bdc081fac14b5bbc7eaffb1d1e1e11ab0f"), looks := false }, kinds := [], alts := [], laidByText := true, laidKinds := [.data, .data, .data], laidTests := true, laidLooks := .later }
def SquashPartsCardSaid : Prop := Claim7.holds Tryz.pinned (.plain (OpenSpec.ofChange squashPartsSpec)) squashPartsCard

/-- THE SECOND FORM's CARD OF 'quiltlaw29.SquashSquash'. -/
def squashSquashUptoCard : Claim7 := { stood := { row := squashSquashUptoRow, standIns := [], harness := (true, "03ad0f6fe76609f317029dc4180d51bdc081fac14b5bbc7eaffb1d1e1e11ab0f"), looks := false }, kinds := [], alts := [], laidByText := true, laidKinds := [.data, .data, .data], laidTests := true, laidLooks := .later }
def SquashSquashUptoCardSaid : Prop := Claim7.holds Tryz.pinned (.plain (OpenSpec.upto squashSquashSpec)) squashSquashUptoCard

/-- THE SECOND FORM's CARD OF 'quiltlaw29.SquashOne'. -/
def squashOneUptoCard : Claim7 := { stood := { row := squashOneUptoRow, standIns := [], harness := (true, "03ad0f6fe76609f317029dc4180d51bdc081fac14b5bbc7eaffb1d1e1e11ab0f"), looks := false }, kinds := [], alts := [], laidByText := true, laidKinds := [.data, .data, .data], laidTests := true, laidLooks := .later }
def SquashOneUptoCardSaid : Prop := Claim7.holds Tryz.pinned (.plain (OpenSpec.upto squashOneSpec)) squashOneUptoCard

/-- THE SECOND FORM's CARD OF 'quiltlaw29.SquashSplit'. -/
def squashSplitUptoCard : Claim7 := { stood := { row := squashSplitUptoRow, standIns := [], harness := (true, "03ad0f6fe76609f317029dc4180d51bdc081fac14b5bbc7eaffb1d1e1e11ab0f"), looks := false }, kinds := [], alts := [], laidByText := true, laidKinds := [.data, .data, .data], laidTests := true, laidLooks := .later }
def SquashSplitUptoCardSaid : Prop := Claim7.holds Tryz.pinned (.plain (OpenSpec.upto squashSplitSpec)) squashSplitUptoCard

/-- THE SECOND FORM's CARD OF 'quiltlaw29.SquashSets'. -/
def squashSetsUptoCard : Claim7 := { stood := { row := squashSetsUptoRow, standIns := [], harness := (true, "03ad0f6fe76609f317029dc4180d51bdc081fac14b5bbc7eaffb1d1e1e11ab0f"), looks := false }, kinds := [], alts := [], laidByText := true, laidKinds := [.data, .data, .data], laidTests := true, laidLooks := .later }
def SquashSetsUptoCardSaid : Prop := Claim7.holds Tryz.pinned (.plain (OpenSpec.upto squashSetsSpec)) squashSetsUptoCard

/-- THE SECOND FORM's CARD OF 'quiltlaw29.SquashAtoms'. -/
def squashAtomsUptoCard : Claim7 := { stood := { row := squashAtomsUptoRow, standIns := [], harness := (true, "03ad0f6fe76609f317029dc4180d51bdc081fac14b5bbc7eaffb1d1e1e11ab0f"), looks := false }, kinds := [], alts := [], laidByText := true, laidKinds := [.data, .data, .data], laidTests := true, laidLooks := .later }
def SquashAtomsUptoCardSaid : Prop := Claim7.holds Tryz.pinned (.plain (OpenSpec.upto squashAtomsSpec)) squashAtomsUptoCard

/-- THE SECOND FORM's CARD OF 'quiltlaw29.SquashParts'. -/
def squashPartsUptoCard : Claim7 := { stood := { row := squashPartsUptoRow, standIns := [], harness := (true, "03ad0f6fe76609f317029dc4180d51bdc081fac14b5bbc7eaffb1d1e1e11ab0f"), looks := false }, kinds := [], alts := [], laidByText := true, laidKinds := [.data, .data, .data], laidTests := true, laidLooks := .later }
def SquashPartsUptoCardSaid : Prop := Claim7.holds Tryz.pinned (.plain (OpenSpec.upto squashPartsSpec)) squashPartsUptoCard
end Rows
end Go.Proofs.YtaibdmankdppkaaGreatDoor
