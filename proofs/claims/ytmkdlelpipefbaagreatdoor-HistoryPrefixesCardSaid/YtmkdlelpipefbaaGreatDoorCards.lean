/-
  DERIVED. GIVEN WITH THE SEED: THE CARDS: each row of YtmkdlelpipefbaaGreatDoorRows.lean that lists a variable, with what it lists TIED to the program's text (the seventh form; the later family's looks); each row that meets fmt, with fmt's text TOLD by the authors' own Lean function (tested against real Go, not proved from fmt's source: count such statements apart). THE CARD IS WHAT COUNTS. Prove the row's statement (the work); the ties are given (YtmkdlelpipefbaaGreatDoorTie.lean); close each card by the builder's one call (the guide's Derived/Test/ToyasCard.lean, 'card_holds'). Laid BY PROGRAM, IN A SANDBOX (cutbox-door.mjs). By AI agents, Wed Nov 11 2026. No macro, syntax, notation, axiom, sorry.
-/
import Derived.Test.YtmkdlelpipefbaaGreatDoorRows
import GoSem.ClaimSeven
namespace Go.Proofs.YtmkdlelpipefbaaGreatDoor
namespace Rows

/-- THE TIED CARD OF 'quiltlaw30.HistoryDepth'. -/
def historyDepthCard : Claim7 := { stood := { row := historyDepthRow, standIns := [], harness := (true, "bb1caeed9ab2b17266b1962ee6ac5ee78e33a9b874001cf91ae71d01e24f3231"), looks := true }, kinds := [], alts := [], laidByText := true, laidKinds := [.data, .data, .data], laidTests := true, laidLooks := .later }
def HistoryDepthCardSaid : Prop := Claim7.holds Tryz.pinned (.plain (OpenSpec.ofChange historyDepthSpec)) historyDepthCard

/-- THE TIED CARD OF 'quiltlaw30.HistoryTops'. -/
def historyTopsCard : Claim7 := { stood := { row := historyTopsRow, standIns := [], harness := (true, "bb1caeed9ab2b17266b1962ee6ac5ee78e33a9b874001cf91ae71d01e24f3231"), looks := true }, kinds := [], alts := [], laidByText := true, laidKinds := [.data, .data, .data], laidTests := true, laidLooks := .later }
def HistoryTopsCardSaid : Prop := Claim7.holds Tryz.pinned (.plain (OpenSpec.ofChange historyTopsSpec)) historyTopsCard

/-- THE TIED CARD OF 'quiltlaw30.HistoryLog'. -/
def historyLogCard : Claim7 := { stood := { row := historyLogRow, standIns := [], harness := (true, "bb1caeed9ab2b17266b1962ee6ac5ee78e33a9b874001cf91ae71d01e24f3231"), looks := true }, kinds := [], alts := [], laidByText := true, laidKinds := [.data, .data, .data], laidTests := true, laidLooks := .later }
def HistoryLogCardSaid : Prop := Claim7.holds Tryz.pinned (.plain (OpenSpec.ofChange historyLogSpec)) historyLogCard

/-- THE TIED CARD OF 'quiltlaw30.HistoryConnected'. -/
def historyConnectedCard : Claim7 := { stood := { row := historyConnectedRow, standIns := [], harness := (true, "bb1caeed9ab2b17266b1962ee6ac5ee78e33a9b874001cf91ae71d01e24f3231"), looks := true }, kinds := [], alts := [], laidByText := true, laidKinds := [.data, .data, .data], laidTests := true, laidLooks := .later }
def HistoryConnectedCardSaid : Prop := Claim7.holds Tryz.pinned (.plain (OpenSpec.ofChange historyConnectedSpec)) historyConnectedCard

/-- THE TIED CARD OF 'quiltlaw30.HistorySwaps'. -/
def historySwapsCard : Claim7 := { stood := { row := historySwapsRow, standIns := [], harness := (true, "bb1caeed9ab2b17266b1962ee6ac5ee78e33a9b874001cf91ae71d01e24f3231"), looks := true }, kinds := [], alts := [], laidByText := true, laidKinds := [.data, .data, .data], laidTests := true, laidLooks := .later }
def HistorySwapsCardSaid : Prop := Claim7.holds Tryz.pinned (.plain (OpenSpec.ofChange historySwapsSpec)) historySwapsCard

/-- THE TIED CARD OF 'quiltlaw30.HistoryPrefixes'. -/
def historyPrefixesCard : Claim7 := { stood := { row := historyPrefixesRow, standIns := [], harness := (true, "bb1caeed9ab2b17266b1962ee6ac5ee78e33a9b874001cf91ae71d01e24f3231"), looks := true }, kinds := [], alts := [], laidByText := true, laidKinds := [.data, .data, .data], laidTests := true, laidLooks := .later }
def HistoryPrefixesCardSaid : Prop := Claim7.holds Tryz.pinned (.plain (OpenSpec.ofChange historyPrefixesSpec)) historyPrefixesCard

/-- THE TIED CARD OF 'quiltlaw30.HistoryMoves'. -/
def historyMovesCard : Claim7 := { stood := { row := historyMovesRow, standIns := [], harness := (true, "bb1caeed9ab2b17266b1962ee6ac5ee78e33a9b874001cf91ae71d01e24f3231"), looks := true }, kinds := [], alts := [], laidByText := true, laidKinds := [.data, .data, .data], laidTests := true, laidLooks := .later }
def HistoryMovesCardSaid : Prop := Claim7.holds Tryz.pinned (.plain (OpenSpec.ofChange historyMovesSpec)) historyMovesCard

/-- THE SECOND FORM's CARD OF 'quiltlaw30.HistoryDepth'. -/
def historyDepthUptoCard : Claim7 := { stood := { row := historyDepthUptoRow, standIns := [], harness := (true, "bb1caeed9ab2b17266b1962ee6ac5ee78e33a9b874001cf91ae71d01e24f3231"), looks := true }, kinds := [], alts := [], laidByText := true, laidKinds := [.data, .data, .data], laidTests := true, laidLooks := .later }
def HistoryDepthUptoCardSaid : Prop := Claim7.holds Tryz.pinned (.plain (OpenSpec.upto historyDepthSpec)) historyDepthUptoCard

/-- THE SECOND FORM's CARD OF 'quiltlaw30.HistoryTops'. -/
def historyTopsUptoCard : Claim7 := { stood := { row := historyTopsUptoRow, standIns := [], harness := (true, "bb1caeed9ab2b17266b1962ee6ac5ee78e33a9b874001cf91ae71d01e24f3231"), looks := true }, kinds := [], alts := [], laidByText := true, laidKinds := [.data, .data, .data], laidTests := true, laidLooks := .later }
def HistoryTopsUptoCardSaid : Prop := Claim7.holds Tryz.pinned (.plain (OpenSpec.upto historyTopsSpec)) historyTopsUptoCard

/-- THE SECOND FORM's CARD OF 'quiltlaw30.HistoryLog'. -/
def historyLogUptoCard : Claim7 := { stood := { row := historyLogUptoRow, standIns := [], harness := (true, "bb1caeed9ab2b17266b1962ee6ac5ee78e33a9b874001cf91ae71d01e24f3231"), looks := true }, kinds := [], alts := [], laidByText := true, laidKinds := [.data, .data, .data], laidTests := true, laidLooks := .later }
def HistoryLogUptoCardSaid : Prop := Claim7.holds Tryz.pinned (.plain (OpenSpec.upto historyLogSpec)) historyLogUptoCard

/-- THE SECOND FORM's CARD OF 'quiltlaw30.HistoryConnected'. -/
def historyConnectedUptoCard : Claim7 := { stood := { row := historyConnectedUptoRow, standIns := [], harness := (true, "bb1caeed9ab2b17266b1962ee6ac5ee78e33a9b874001cf91ae71d01e24f3231"), looks := true }, kinds := [], alts := [], laidByText := true, laidKinds := [.data, .data, .data], laidTests := true, laidLooks := .later }
def HistoryConnectedUptoCardSaid : Prop := Claim7.holds Tryz.pinned (.plain (OpenSpec.upto historyConnectedSpec)) historyConnectedUptoCard

/-- THE SECOND FORM's CARD OF 'quiltlaw30.HistorySwaps'. -/
def historySwapsUptoCard : Claim7 := { stood := { row := historySwapsUptoRow, standIns := [], harness := (true, "bb1caeed9ab2b17266b1962ee6ac5ee78e33a9b874001cf91ae71d01e24f3231"), looks := true }, kinds := [], alts := [], laidByText := true, laidKinds := [.data, .data, .data], laidTests := true, laidLooks := .later }
def HistorySwapsUptoCardSaid : Prop := Claim7.holds Tryz.pinned (.plain (OpenSpec.upto historySwapsSpec)) historySwapsUptoCard

/-- THE SECOND FORM's CARD OF 'quiltlaw30.HistoryPrefixes'. -/
def historyPrefixesUptoCard : Claim7 := { stood := { row := historyPrefixesUptoRow, standIns := [], harness := (true, "bb1caeed9ab2b17266b1962ee6ac5ee78e33a9b874001cf91ae71d01e24f3231"), looks := true }, kinds := [], alts := [], laidByText := true, laidKinds := [.data, .data, .data], laidTests := true, laidLooks := .later }
def HistoryPrefixesUptoCardSaid : Prop := Claim7.holds Tryz.pinned (.plain (OpenSpec.upto historyPrefixesSpec)) historyPrefixesUptoCard

/-- THE SECOND FORM's CARD OF 'quiltlaw30.HistoryMoves'. -/
def historyMovesUptoCard : Claim7 := { stood := { row := historyMovesUptoRow, standIns := [], harness := (true, "bb1caeed9ab2b17266b1962ee6ac5ee78e33a9b874001cf91ae71d01e24f3231"), looks := true }, kinds := [], alts := [], laidByText := true, laidKinds := [.data, .data, .data], laidTests := true, laidLooks := .later }
def HistoryMovesUptoCardSaid : Prop := Claim7.holds Tryz.pinned (.plain (OpenSpec.upto historyMovesSpec)) historyMovesUptoCard
end Rows
end Go.Proofs.YtmkdlelpipefbaaGreatDoor
