/-
  DERIVED. GIVEN WITH THE SEED: THE CARDS: each row of YtilgojlncmjjcaaDoorRows.lean that lists a variable, with what it lists TIED to the program's text (the seventh form; the later family's looks); each row that meets fmt, with fmt's text TOLD by the authors' own Lean function (tested against real Go, not proved from fmt's source: count such statements apart). THE CARD IS WHAT COUNTS. Prove the row's statement (the work); the ties are given (YtilgojlncmjjcaaDoorTie.lean); close each card by the builder's one call (the guide's Derived/Test/ToyasCard.lean, 'card_holds'). Laid BY PROGRAM, IN A SANDBOX (cutbox-door.mjs). By AI agents, Wed Nov 11 2026. No macro, syntax, notation, axiom, sorry.
-/
import Derived.Test.YtilgojlncmjjcaaDoorRows
import GoSem.ClaimSeven
namespace Go.Proofs.YtilgojlncmjjcaaDoor
namespace Rows

/-- THE TIED CARD OF 'roundellaw01.MaskOf'. -/
def maskOfCard : Claim7 := { stood := { row := maskOfRow, standIns := [], harness := (true, "628ad40c71e7f3b571bf0a74fab436c96add52d6c20ecf065ac728a124a28e94"), looks := true }, kinds := [], alts := [], laidByText := true, laidKinds := [.data, .data, .data], laidTests := true, laidLooks := .later }
def MaskOfCardSaid : Prop := Claim7.holds Tryd.pinned (.plain (OpenSpec.ofChange maskOfSpec)) maskOfCard

/-- THE TIED CARD OF 'roundellaw01.MaskCores'. -/
def maskCoresCard : Claim7 := { stood := { row := maskCoresRow, standIns := [], harness := (true, "628ad40c71e7f3b571bf0a74fab436c96add52d6c20ecf065ac728a124a28e94"), looks := true }, kinds := [], alts := [], laidByText := true, laidKinds := [.data, .data, .data], laidTests := true, laidLooks := .later }
def MaskCoresCardSaid : Prop := Claim7.holds Tryd.pinned (.plain (OpenSpec.ofChange maskCoresSpec)) maskCoresCard

/-- THE TIED CARD OF 'roundellaw01.MaskPairs'. -/
def maskPairsCard : Claim7 := { stood := { row := maskPairsRow, standIns := [], harness := (true, "628ad40c71e7f3b571bf0a74fab436c96add52d6c20ecf065ac728a124a28e94"), looks := true }, kinds := [], alts := [], laidByText := true, laidKinds := [.data, .data, .data], laidTests := true, laidLooks := .later }
def MaskPairsCardSaid : Prop := Claim7.holds Tryd.pinned (.plain (OpenSpec.ofChange maskPairsSpec)) maskPairsCard

/-- THE TIED CARD OF 'roundellaw01.MaskAsks'. -/
def maskAsksCard : Claim7 := { stood := { row := maskAsksRow, standIns := [], harness := (true, "628ad40c71e7f3b571bf0a74fab436c96add52d6c20ecf065ac728a124a28e94"), looks := true }, kinds := [], alts := [], laidByText := true, laidKinds := [.data, .data, .data], laidTests := true, laidLooks := .later }
def MaskAsksCardSaid : Prop := Claim7.holds Tryd.pinned (.plain (OpenSpec.ofChange maskAsksSpec)) maskAsksCard

/-- THE TIED CARD OF 'roundellaw01.MaskChanges'. -/
def maskChangesCard : Claim7 := { stood := { row := maskChangesRow, standIns := [], harness := (true, "628ad40c71e7f3b571bf0a74fab436c96add52d6c20ecf065ac728a124a28e94"), looks := true }, kinds := [], alts := [], laidByText := true, laidKinds := [.data, .data, .data], laidTests := true, laidLooks := .later }
def MaskChangesCardSaid : Prop := Claim7.holds Tryd.pinned (.plain (OpenSpec.ofChange maskChangesSpec)) maskChangesCard

/-- THE TIED CARD OF 'roundellaw01.MaskTexts'. -/
def maskTextsCard : Claim7 := { stood := { row := maskTextsRow, standIns := [], harness := (true, "628ad40c71e7f3b571bf0a74fab436c96add52d6c20ecf065ac728a124a28e94"), looks := true }, kinds := [], alts := [], laidByText := true, laidKinds := [.data, .data, .data, .data, .sentinel, .sentinel, .pinned], laidTests := true, laidLooks := .later }
def MaskTextsCardSaid : Prop := Claim7.holds Tryd.pinned (.plain (OpenSpec.ofChange maskTextsSpec)) maskTextsCard

/-- THE TIED CARD OF 'roundellaw01.MaskReads'. -/
def maskReadsCard : Claim7 := { stood := { row := maskReadsRow, standIns := [], harness := (true, "628ad40c71e7f3b571bf0a74fab436c96add52d6c20ecf065ac728a124a28e94"), looks := true }, kinds := [], alts := [], laidByText := true, laidKinds := [.data, .data, .data, .data, .sentinel, .sentinel, .pinned], laidTests := true, laidLooks := .later }
def MaskReadsCardSaid : Prop := Claim7.holds Tryd.pinned (.plain (OpenSpec.ofChange maskReadsSpec)) maskReadsCard

/-- THE SECOND FORM's CARD OF 'roundellaw01.MaskOf'. -/
def maskOfUptoCard : Claim7 := { stood := { row := maskOfUptoRow, standIns := [], harness := (true, "628ad40c71e7f3b571bf0a74fab436c96add52d6c20ecf065ac728a124a28e94"), looks := true }, kinds := [], alts := [], laidByText := true, laidKinds := [.data, .data, .data], laidTests := true, laidLooks := .later }
def MaskOfUptoCardSaid : Prop := Claim7.holds Tryd.pinned (.plain (OpenSpec.upto maskOfSpec)) maskOfUptoCard

/-- THE SECOND FORM's CARD OF 'roundellaw01.MaskCores'. -/
def maskCoresUptoCard : Claim7 := { stood := { row := maskCoresUptoRow, standIns := [], harness := (true, "628ad40c71e7f3b571bf0a74fab436c96add52d6c20ecf065ac728a124a28e94"), looks := true }, kinds := [], alts := [], laidByText := true, laidKinds := [.data, .data, .data], laidTests := true, laidLooks := .later }
def MaskCoresUptoCardSaid : Prop := Claim7.holds Tryd.pinned (.plain (OpenSpec.upto maskCoresSpec)) maskCoresUptoCard

/-- THE SECOND FORM's CARD OF 'roundellaw01.MaskPairs'. -/
def maskPairsUptoCard : Claim7 := { stood := { row := maskPairsUptoRow, standIns := [], harness := (true, "628ad40c71e7f3b571bf0a74fab436c96add52d6c20ecf065ac728a124a28e94"), looks := true }, kinds := [], alts := [], laidByText := true, laidKinds := [.data, .data, .data], laidTests := true, laidLooks := .later }
def MaskPairsUptoCardSaid : Prop := Claim7.holds Tryd.pinned (.plain (OpenSpec.upto maskPairsSpec)) maskPairsUptoCard

/-- THE SECOND FORM's CARD OF 'roundellaw01.MaskAsks'. -/
def maskAsksUptoCard : Claim7 := { stood := { row := maskAsksUptoRow, standIns := [], harness := (true, "628ad40c71e7f3b571bf0a74fab436c96add52d6c20ecf065ac728a124a28e94"), looks := true }, kinds := [], alts := [], laidByText := true, laidKinds := [.data, .data, .data], laidTests := true, laidLooks := .later }
def MaskAsksUptoCardSaid : Prop := Claim7.holds Tryd.pinned (.plain (OpenSpec.upto maskAsksSpec)) maskAsksUptoCard

/-- THE SECOND FORM's CARD OF 'roundellaw01.MaskChanges'. -/
def maskChangesUptoCard : Claim7 := { stood := { row := maskChangesUptoRow, standIns := [], harness := (true, "628ad40c71e7f3b571bf0a74fab436c96add52d6c20ecf065ac728a124a28e94"), looks := true }, kinds := [], alts := [], laidByText := true, laidKinds := [.data, .data, .data], laidTests := true, laidLooks := .later }
def MaskChangesUptoCardSaid : Prop := Claim7.holds Tryd.pinned (.plain (OpenSpec.upto maskChangesSpec)) maskChangesUptoCard

/-- THE SECOND FORM's CARD OF 'roundellaw01.MaskTexts'. -/
def maskTextsUptoCard : Claim7 := { stood := { row := maskTextsUptoRow, standIns := [], harness := (true, "628ad40c71e7f3b571bf0a74fab436c96add52d6c20ecf065ac728a124a28e94"), looks := true }, kinds := [], alts := [], laidByText := true, laidKinds := [.data, .data, .data, .data, .sentinel, .sentinel, .pinned], laidTests := true, laidLooks := .later }
def MaskTextsUptoCardSaid : Prop := Claim7.holds Tryd.pinned (.plain (OpenSpec.upto maskTextsSpec)) maskTextsUptoCard

/-- THE SECOND FORM's CARD OF 'roundellaw01.MaskReads'. -/
def maskReadsUptoCard : Claim7 := { stood := { row := maskReadsUptoRow, standIns := [], harness := (true, "628ad40c71e7f3b571bf0a74fab436c96add52d6c20ecf065ac728a124a28e94"), looks := true }, kinds := [], alts := [], laidByText := true, laidKinds := [.data, .data, .data, .data, .sentinel, .sentinel, .pinned], laidTests := true, laidLooks := .later }
def MaskReadsUptoCardSaid : Prop := Claim7.holds Tryd.pinned (.plain (OpenSpec.upto maskReadsSpec)) maskReadsUptoCard
end Rows
end Go.Proofs.YtilgojlncmjjcaaDoor
