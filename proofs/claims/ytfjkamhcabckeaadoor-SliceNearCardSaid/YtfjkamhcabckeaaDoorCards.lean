/-
  DERIVED. GIVEN WITH THE SEED: THE CARDS: each row of YtfjkamhcabckeaaDoorRows.lean that lists a variable, with what it lists TIED to the program's text (the seventh form; the later family's looks); each row that meets fmt, with fmt's text TOLD by the authors' own Lean function (tested against real Go, not proved from fmt's source: count such statements apart). THE CARD IS WHAT COUNTS. Prove the row's statement (the work); the ties are given (YtfjkamhcabckeaaDoorTie.lean); close each card by the builder's one call (the guide's Derived/Test/ToyasCard.lean, 'card_holds'). Laid BY PROGRAM, IN A SANDBOX (cutbox-door.mjs). By AI agents, Wed Nov 11 2026. No macro, syntax, notation, axiom, sorry.
-/
import Derived.Test.YtfjkamhcabckeaaDoorRows
import GoSem.ClaimSeven
namespace Go.Proofs.YtfjkamhcabckeaaDoor
namespace Rows

/-- THE TIED CARD OF 'roundellaw03.RatioGoods'. -/
def ratioGoodsCard : Claim7 := { stood := { row := ratioGoodsRow, standIns := [], harness := (true, "3e3c4e263eb547e5c0fa5219c9200c112b5bb507b0e64f75d4da2eb8f9e6a80d"), looks := false }, kinds := [], alts := [], laidByText := true, laidKinds := [.data, .data, .data], laidTests := true, laidLooks := .later }
def RatioGoodsCardSaid : Prop := Claim7.holds Tryd.pinned (.plain (OpenSpec.ofChange ratioGoodsSpec)) ratioGoodsCard

/-- THE TIED CARD OF 'roundellaw03.RatioOf'. -/
def ratioOfCard : Claim7 := { stood := { row := ratioOfRow, standIns := [], harness := (true, "3e3c4e263eb547e5c0fa5219c9200c112b5bb507b0e64f75d4da2eb8f9e6a80d"), looks := false }, kinds := [], alts := [], laidByText := true, laidKinds := [.data, .data, .data], laidTests := true, laidLooks := .later }
def RatioOfCardSaid : Prop := Claim7.holds Tryd.pinned (.plain (OpenSpec.ofChange ratioOfSpec)) ratioOfCard

/-- THE TIED CARD OF 'roundellaw03.RatioProducts'. -/
def ratioProductsCard : Claim7 := { stood := { row := ratioProductsRow, standIns := [], harness := (true, "3e3c4e263eb547e5c0fa5219c9200c112b5bb507b0e64f75d4da2eb8f9e6a80d"), looks := false }, kinds := [], alts := [], laidByText := true, laidKinds := [.data, .data, .data], laidTests := true, laidLooks := .later }
def RatioProductsCardSaid : Prop := Claim7.holds Tryd.pinned (.plain (OpenSpec.ofChange ratioProductsSpec)) ratioProductsCard

/-- THE TIED CARD OF 'roundellaw03.RatioBack'. -/
def ratioBackCard : Claim7 := { stood := { row := ratioBackRow, standIns := [], harness := (true, "3e3c4e263eb547e5c0fa5219c9200c112b5bb507b0e64f75d4da2eb8f9e6a80d"), looks := false }, kinds := [], alts := [], laidByText := true, laidKinds := [.data, .data, .data], laidTests := true, laidLooks := .later }
def RatioBackCardSaid : Prop := Claim7.holds Tryd.pinned (.plain (OpenSpec.ofChange ratioBackSpec)) ratioBackCard

/-- THE TIED CARD OF 'roundellaw03.RatioSums'. -/
def ratioSumsCard : Claim7 := { stood := { row := ratioSumsRow, standIns := [], harness := (true, "3e3c4e263eb547e5c0fa5219c9200c112b5bb507b0e64f75d4da2eb8f9e6a80d"), looks := false }, kinds := [], alts := [], laidByText := true, laidKinds := [.data, .data, .data], laidTests := true, laidLooks := .later }
def RatioSumsCardSaid : Prop := Claim7.holds Tryd.pinned (.plain (OpenSpec.ofChange ratioSumsSpec)) ratioSumsCard

/-- THE TIED CARD OF 'roundellaw03.RatioTexts'. -/
def ratioTextsCard : Claim7 := { stood := { row := ratioTextsRow, standIns := [], harness := (true, "3e3c4e263eb547e5c0fa5219c9200c112b5bb507b0e64f75d4da2eb8f9e6a80d"), looks := false }, kinds := [], alts := [], laidByText := true, laidKinds := [.data, .data, .data], laidTests := true, laidLooks := .later }
def RatioTextsCardSaid : Prop := Claim7.holds Tryd.pinned (.plain (OpenSpec.ofChange ratioTextsSpec)) ratioTextsCard

/-- THE TIED CARD OF 'roundellaw03.RatioReads'. -/
def ratioReadsCard : Claim7 := { stood := { row := ratioReadsRow, standIns := [], harness := (true, "3e3c4e263eb547e5c0fa5219c9200c112b5bb507b0e64f75d4da2eb8f9e6a80d"), looks := false }, kinds := [], alts := [], laidByText := true, laidKinds := [.data, .data, .data], laidTests := true, laidLooks := .later }
def RatioReadsCardSaid : Prop := Claim7.holds Tryd.pinned (.plain (OpenSpec.ofChange ratioReadsSpec)) ratioReadsCard

/-- THE TIED CARD OF 'roundellaw10.SliceOf'. -/
def sliceOfCard : Claim7 := { stood := { row := sliceOfRow, standIns := [], harness := (true, "3e3c4e263eb547e5c0fa5219c9200c112b5bb507b0e64f75d4da2eb8f9e6a80d"), looks := false }, kinds := [], alts := [], laidByText := true, laidKinds := [.data, .data, .data], laidTests := true, laidLooks := .later }
def SliceOfCardSaid : Prop := Claim7.holds Tryd.pinned (.plain (OpenSpec.ofChange sliceOfSpec)) sliceOfCard

/-- THE TIED CARD OF 'roundellaw10.SliceNear'. -/
def sliceNearCard : Claim7 := { stood := { row := sliceNearRow, standIns := [], harness := (true, "3e3c4e263eb547e5c0fa5219c9200c112b5bb507b0e64f75d4da2eb8f9e6a80d"), looks := false }, kinds := [], alts := [], laidByText := true, laidKinds := [.data, .data, .data], laidTests := true, laidLooks := .later }
def SliceNearCardSaid : Prop := Claim7.holds Tryd.pinned (.plain (OpenSpec.ofChange sliceNearSpec)) sliceNearCard

/-- THE TIED CARD OF 'roundellaw10.SliceAll'. -/
def sliceAllCard : Claim7 := { stood := { row := sliceAllRow, standIns := [], harness := (true, "3e3c4e263eb547e5c0fa5219c9200c112b5bb507b0e64f75d4da2eb8f9e6a80d"), looks := false }, kinds := [], alts := [], laidByText := true, laidKinds := [.data, .data, .data], laidTests := true, laidLooks := .later }
def SliceAllCardSaid : Prop := Claim7.holds Tryd.pinned (.plain (OpenSpec.ofChange sliceAllSpec)) sliceAllCard

/-- THE TIED CARD OF 'roundellaw10.SliceSums'. -/
def sliceSumsCard : Claim7 := { stood := { row := sliceSumsRow, standIns := [], harness := (true, "3e3c4e263eb547e5c0fa5219c9200c112b5bb507b0e64f75d4da2eb8f9e6a80d"), looks := false }, kinds := [], alts := [], laidByText := true, laidKinds := [.data, .data, .data], laidTests := true, laidLooks := .later }
def SliceSumsCardSaid : Prop := Claim7.holds Tryd.pinned (.plain (OpenSpec.ofChange sliceSumsSpec)) sliceSumsCard

/-- THE SECOND FORM's CARD OF 'roundellaw03.RatioGoods'. -/
def ratioGoodsUptoCard : Claim7 := { stood := { row := ratioGoodsUptoRow, standIns := [], harness := (true, "3e3c4e263eb547e5c0fa5219c9200c112b5bb507b0e64f75d4da2eb8f9e6a80d"), looks := false }, kinds := [], alts := [], laidByText := true, laidKinds := [.data, .data, .data], laidTests := true, laidLooks := .later }
def RatioGoodsUptoCardSaid : Prop := Claim7.holds Tryd.pinned (.plain (OpenSpec.upto ratioGoodsSpec)) ratioGoodsUptoCard

/-- THE SECOND FORM's CARD OF 'roundellaw03.RatioOf'. -/
def ratioOfUptoCard : Claim7 := { stood := { row := ratioOfUptoRow, standIns := [], harness := (true, "3e3c4e263eb547e5c0fa5219c9200c112b5bb507b0e64f75d4da2eb8f9e6a80d"), looks := false }, kinds := [], alts := [], laidByText := true, laidKinds := [.data, .data, .data], laidTests := true, laidLooks := .later }
def RatioOfUptoCardSaid : Prop := Claim7.holds Tryd.pinned (.plain (OpenSpec.upto ratioOfSpec)) ratioOfUptoCard

/-- THE SECOND FORM's CARD OF 'roundellaw03.RatioProducts'. -/
def ratioProductsUptoCard : Claim7 := { stood := { row := ratioProductsUptoRow, standIns := [], harness := (true, "3e3c4e263eb547e5c0fa5219c9200c112b5bb507b0e64f75d4da2eb8f9e6a80d"), looks := false }, kinds := [], alts := [], laidByText := true, laidKinds := [.data, .data, .data], laidTests := true, laidLooks := .later }
def RatioProductsUptoCardSaid : Prop := Claim7.holds Tryd.pinned (.plain (OpenSpec.upto ratioProductsSpec)) ratioProductsUptoCard

/-- THE SECOND FORM's CARD OF 'roundellaw03.RatioBack'. -/
def ratioBackUptoCard : Claim7 := { stood := { row := ratioBackUptoRow, standIns := [], harness := (true, "3e3c4e263eb547e5c0fa5219c9200c112b5bb507b0e64f75d4da2eb8f9e6a80d"), looks := false }, kinds := [], alts := [], laidByText := true, laidKinds := [.data, .data, .data], laidTests := true, laidLooks := .later }
def RatioBackUptoCardSaid : Prop := Claim7.holds Tryd.pinned (.plain (OpenSpec.upto ratioBackSpec)) ratioBackUptoCard

/-- THE SECOND FORM's CARD OF 'roundellaw03.RatioSums'. -/
def ratioSumsUptoCard : Claim7 := { stood := { row := ratioSumsUptoRow, standIns := [], harness := (true, "3e3c4e263eb547e5c0fa5219c9200c112b5bb507b0e64f75d4da2eb8f9e6a80d"), looks := false }, kinds := [], alts := [], laidByText := true, laidKinds := [.data, .data, .data], laidTests := true, laidLooks := .later }
def RatioSumsUptoCardSaid : Prop := Claim7.holds Tryd.pinned (.plain (OpenSpec.upto ratioSumsSpec)) ratioSumsUptoCard

/-- THE SECOND FORM's CARD OF 'roundellaw03.RatioTexts'. -/
def ratioTextsUptoCard : Claim7 := { stood := { row := ratioTextsUptoRow, standIns := [], harness := (true, "3e3c4e263eb547e5c0fa5219c9200c112b5bb507b0e64f75d4da2eb8f9e6a80d"), looks := false }, kinds := [], alts := [], laidByText := true, laidKinds := [.data, .data, .data], laidTests := true, laidLooks := .later }
def RatioTextsUptoCardSaid : Prop := Claim7.holds Tryd.pinned (.plain (OpenSpec.upto ratioTextsSpec)) ratioTextsUptoCard

/-- THE SECOND FORM's CARD OF 'roundellaw03.RatioReads'. -/
def ratioReadsUptoCard : Claim7 := { stood := { row := ratioReadsUptoRow, standIns := [], harness := (true, "3e3c4e263eb547e5c0fa5219c9200c112b5bb507b0e64f75d4da2eb8f9e6a80d"), looks := false }, kinds := [], alts := [], laidByText := true, laidKinds := [.data, .data, .data], laidTests := true, laidLooks := .later }
def RatioReadsUptoCardSaid : Prop := Claim7.holds Tryd.pinned (.plain (OpenSpec.upto ratioReadsSpec)) ratioReadsUptoCard

/-- THE SECOND FORM's CARD OF 'roundellaw10.SliceOf'. -/
def sliceOfUptoCard : Claim7 := { stood := { row := sliceOfUptoRow, standIns := [], harness := (true, "3e3c4e263eb547e5c0fa5219c9200c112b5bb507b0e64f75d4da2eb8f9e6a80d"), looks := false }, kinds := [], alts := [], laidByText := true, laidKinds := [.data, .data, .data], laidTests := true, laidLooks := .later }
def SliceOfUptoCardSaid : Prop := Claim7.holds Tryd.pinned (.plain (OpenSpec.upto sliceOfSpec)) sliceOfUptoCard

/-- THE SECOND FORM's CARD OF 'roundellaw10.SliceNear'. -/
def sliceNearUptoCard : Claim7 := { stood := { row := sliceNearUptoRow, standIns := [], harness := (true, "3e3c4e263eb547e5c0fa5219c9200c112b5bb507b0e64f75d4da2eb8f9e6a80d"), looks := false }, kinds := [], alts := [], laidByText := true, laidKinds := [.data, .data, .data], laidTests := true, laidLooks := .later }
def SliceNearUptoCardSaid : Prop := Claim7.holds Tryd.pinned (.plain (OpenSpec.upto sliceNearSpec)) sliceNearUptoCard

/-- THE SECOND FORM's CARD OF 'roundellaw10.SliceAll'. -/
def sliceAllUptoCard : Claim7 := { stood := { row := sliceAllUptoRow, standIns := [], harness := (true, "3e3c4e263eb547e5c0fa5219c9200c112b5bb507b0e64f75d4da2eb8f9e6a80d"), looks := false }, kinds := [], alts := [], laidByText := true, laidKinds := [.data, .data, .data], laidTests := true, laidLooks := .later }
def SliceAllUptoCardSaid : Prop := Claim7.holds Tryd.pinned (.plain (OpenSpec.upto sliceAllSpec)) sliceAllUptoCard

/-- THE SECOND FORM's CARD OF 'roundellaw10.SliceSums'. -/
def sliceSumsUptoCard : Claim7 := { stood := { row := sliceSumsUptoRow, standIns := [], harness := (true, "3e3c4e263eb547e5c0fa5219c9200c112b5bb507b0e64f75d4da2eb8f9e6a80d"), looks := false }, kinds := [], alts := [], laidByText := true, laidKinds := [.data, .data, .data], laidTests := true, laidLooks := .later }
def SliceSumsUptoCardSaid : Prop := Claim7.holds Tryd.pinned (.plain (OpenSpec.upto sliceSumsSpec)) sliceSumsUptoCard
end Rows
end Go.Proofs.YtfjkamhcabckeaaDoor
