/-
  DERIVED. GIVEN WITH THE SEED: THE CARDS: each row of YtcoipojikmgdmaaDoorRows.lean that lists a variable, with what it lists TIED to the program's text (the seventh form; the later family's looks); each row that meets fmt, with fmt's text TOLD by the authors' own Lean function (tested against real Go, not proved from fmt's source: count such statements apart). THE CARD IS WHAT COUNTS. Prove the row's statement (the work); the ties are given (YtcoipojikmgdmaaDoorTie.lean); close each card by the builder's one call (the guide's Derived/Test/ToyasCard.lean, 'card_holds'). Laid BY PROGRAM, IN A SANDBOX (cutbox-door.mjs). By AI agents, Wed Nov 11 2026. No macro, syntax, notation, axiom, sorry.
-/
import Derived.Test.YtcoipojikmgdmaaDoorRows
import GoSem.ClaimSeven
namespace Go.Proofs.YtcoipojikmgdmaaDoor
namespace Rows

/-- THE TIED CARD OF 'roundellaw02.NatGoods'. -/
def natGoodsCard : Claim7 := { stood := { row := natGoodsRow, standIns := [], harness := (true, "555eeb7edd887a5aedd94adae06ce0739c9035db7820e3e00d66293bcfd80dda"), looks := false }, kinds := [], alts := [], laidByText := true, laidKinds := [.data, .data, .data], laidTests := true, laidLooks := .later }
def NatGoodsCardSaid : Prop := Claim7.holds Tryd.pinned (.plain (OpenSpec.ofChange natGoodsSpec)) natGoodsCard

/-- THE TIED CARD OF 'roundellaw02.NatProducts'. -/
def natProductsCard : Claim7 := { stood := { row := natProductsRow, standIns := [], harness := (true, "555eeb7edd887a5aedd94adae06ce0739c9035db7820e3e00d66293bcfd80dda"), looks := false }, kinds := [], alts := [], laidByText := true, laidKinds := [.data, .data, .data], laidTests := true, laidLooks := .later }
def NatProductsCardSaid : Prop := Claim7.holds Tryd.pinned (.plain (OpenSpec.ofChange natProductsSpec)) natProductsCard

/-- THE TIED CARD OF 'roundellaw02.NatSums'. -/
def natSumsCard : Claim7 := { stood := { row := natSumsRow, standIns := [], harness := (true, "555eeb7edd887a5aedd94adae06ce0739c9035db7820e3e00d66293bcfd80dda"), looks := false }, kinds := [], alts := [], laidByText := true, laidKinds := [.data, .data, .data], laidTests := true, laidLooks := .later }
def NatSumsCardSaid : Prop := Claim7.holds Tryd.pinned (.plain (OpenSpec.ofChange natSumsSpec)) natSumsCard

/-- THE TIED CARD OF 'roundellaw02.NatRings'. -/
def natRingsCard : Claim7 := { stood := { row := natRingsRow, standIns := [], harness := (true, "555eeb7edd887a5aedd94adae06ce0739c9035db7820e3e00d66293bcfd80dda"), looks := false }, kinds := [], alts := [], laidByText := true, laidKinds := [.data, .data, .data], laidTests := true, laidLooks := .later }
def NatRingsCardSaid : Prop := Claim7.holds Tryd.pinned (.plain (OpenSpec.ofChange natRingsSpec)) natRingsCard

/-- THE TIED CARD OF 'roundellaw02.NatReads'. -/
def natReadsCard : Claim7 := { stood := { row := natReadsRow, standIns := [], harness := (true, "555eeb7edd887a5aedd94adae06ce0739c9035db7820e3e00d66293bcfd80dda"), looks := false }, kinds := [], alts := [], laidByText := true, laidKinds := [.data, .data, .data], laidTests := true, laidLooks := .later }
def NatReadsCardSaid : Prop := Claim7.holds Tryd.pinned (.plain (OpenSpec.ofChange natReadsSpec)) natReadsCard

/-- THE TIED CARD OF 'roundellaw02.NatGcds'. -/
def natGcdsCard : Claim7 := { stood := { row := natGcdsRow, standIns := [], harness := (true, "555eeb7edd887a5aedd94adae06ce0739c9035db7820e3e00d66293bcfd80dda"), looks := false }, kinds := [], alts := [], laidByText := true, laidKinds := [.data, .data, .data], laidTests := true, laidLooks := .later }
def NatGcdsCardSaid : Prop := Claim7.holds Tryd.pinned (.plain (OpenSpec.ofChange natGcdsSpec)) natGcdsCard

/-- THE TIED CARD OF 'roundellaw02.NatDivides'. -/
def natDividesCard : Claim7 := { stood := { row := natDividesRow, standIns := [], harness := (true, "555eeb7edd887a5aedd94adae06ce0739c9035db7820e3e00d66293bcfd80dda"), looks := false }, kinds := [], alts := [], laidByText := true, laidKinds := [.data, .data, .data], laidTests := true, laidLooks := .later }
def NatDividesCardSaid : Prop := Claim7.holds Tryd.pinned (.plain (OpenSpec.ofChange natDividesSpec)) natDividesCard

/-- THE TIED CARD OF 'roundellaw02.NatTexts'. -/
def natTextsCard : Claim7 := { stood := { row := natTextsRow, standIns := [], harness := (true, "555eeb7edd887a5aedd94adae06ce0739c9035db7820e3e00d66293bcfd80dda"), looks := false }, kinds := [], alts := [], laidByText := true, laidKinds := [.data, .data, .data], laidTests := true, laidLooks := .later }
def NatTextsCardSaid : Prop := Claim7.holds Tryd.pinned (.plain (OpenSpec.ofChange natTextsSpec)) natTextsCard

/-- THE TIED CARD OF 'roundellaw02.NatQuotients'. -/
def natQuotientsCard : Claim7 := { stood := { row := natQuotientsRow, standIns := [], harness := (true, "555eeb7edd887a5aedd94adae06ce0739c9035db7820e3e00d66293bcfd80dda"), looks := false }, kinds := [], alts := [], laidByText := true, laidKinds := [.data, .data, .data], laidTests := true, laidLooks := .later }
def NatQuotientsCardSaid : Prop := Claim7.holds Tryd.pinned (.plain (OpenSpec.ofChange natQuotientsSpec)) natQuotientsCard

/-- THE SECOND FORM's CARD OF 'roundellaw02.NatGoods'. -/
def natGoodsUptoCard : Claim7 := { stood := { row := natGoodsUptoRow, standIns := [], harness := (true, "555eeb7edd887a5aedd94adae06ce0739c9035db7820e3e00d66293bcfd80dda"), looks := false }, kinds := [], alts := [], laidByText := true, laidKinds := [.data, .data, .data], laidTests := true, laidLooks := .later }
def NatGoodsUptoCardSaid : Prop := Claim7.holds Tryd.pinned (.plain (OpenSpec.upto natGoodsSpec)) natGoodsUptoCard

/-- THE SECOND FORM's CARD OF 'roundellaw02.NatProducts'. -/
def natProductsUptoCard : Claim7 := { stood := { row := natProductsUptoRow, standIns := [], harness := (true, "555eeb7edd887a5aedd94adae06ce0739c9035db7820e3e00d66293bcfd80dda"), looks := false }, kinds := [], alts := [], laidByText := true, laidKinds := [.data, .data, .data], laidTests := true, laidLooks := .later }
def NatProductsUptoCardSaid : Prop := Claim7.holds Tryd.pinned (.plain (OpenSpec.upto natProductsSpec)) natProductsUptoCard

/-- THE SECOND FORM's CARD OF 'roundellaw02.NatSums'. -/
def natSumsUptoCard : Claim7 := { stood := { row := natSumsUptoRow, standIns := [], harness := (true, "555eeb7edd887a5aedd94adae06ce0739c9035db7820e3e00d66293bcfd80dda"), looks := false }, kinds := [], alts := [], laidByText := true, laidKinds := [.data, .data, .data], laidTests := true, laidLooks := .later }
def NatSumsUptoCardSaid : Prop := Claim7.holds Tryd.pinned (.plain (OpenSpec.upto natSumsSpec)) natSumsUptoCard

/-- THE SECOND FORM's CARD OF 'roundellaw02.NatRings'. -/
def natRingsUptoCard : Claim7 := { stood := { row := natRingsUptoRow, standIns := [], harness := (true, "555eeb7edd887a5aedd94adae06ce0739c9035db7820e3e00d66293bcfd80dda"), looks := false }, kinds := [], alts := [], laidByText := true, laidKinds := [.data, .data, .data], laidTests := true, laidLooks := .later }
def NatRingsUptoCardSaid : Prop := Claim7.holds Tryd.pinned (.plain (OpenSpec.upto natRingsSpec)) natRingsUptoCard

/-- THE SECOND FORM's CARD OF 'roundellaw02.NatReads'. -/
def natReadsUptoCard : Claim7 := { stood := { row := natReadsUptoRow, standIns := [], harness := (true, "555eeb7edd887a5aedd94adae06ce0739c9035db7820e3e00d66293bcfd80dda"), looks := false }, kinds := [], alts := [], laidByText := true, laidKinds := [.data, .data, .data], laidTests := true, laidLooks := .later }
def NatReadsUptoCardSaid : Prop := Claim7.holds Tryd.pinned (.plain (OpenSpec.upto natReadsSpec)) natReadsUptoCard

/-- THE SECOND FORM's CARD OF 'roundellaw02.NatGcds'. -/
def natGcdsUptoCard : Claim7 := { stood := { row := natGcdsUptoRow, standIns := [], harness := (true, "555eeb7edd887a5aedd94adae06ce0739c9035db7820e3e00d66293bcfd80dda"), looks := false }, kinds := [], alts := [], laidByText := true, laidKinds := [.data, .data, .data], laidTests := true, laidLooks := .later }
def NatGcdsUptoCardSaid : Prop := Claim7.holds Tryd.pinned (.plain (OpenSpec.upto natGcdsSpec)) natGcdsUptoCard

/-- THE SECOND FORM's CARD OF 'roundellaw02.NatDivides'. -/
def natDividesUptoCard : Claim7 := { stood := { row := natDividesUptoRow, standIns := [], harness := (true, "555eeb7edd887a5aedd94adae06ce0739c9035db7820e3e00d66293bcfd80dda"), looks := false }, kinds := [], alts := [], laidByText := true, laidKinds := [.data, .data, .data], laidTests := true, laidLooks := .later }
def NatDividesUptoCardSaid : Prop := Claim7.holds Tryd.pinned (.plain (OpenSpec.upto natDividesSpec)) natDividesUptoCard

/-- THE SECOND FORM's CARD OF 'roundellaw02.NatTexts'. -/
def natTextsUptoCard : Claim7 := { stood := { row := natTextsUptoRow, standIns := [], harness := (true, "555eeb7edd887a5aedd94adae06ce0739c9035db7820e3e00d66293bcfd80dda"), looks := false }, kinds := [], alts := [], laidByText := true, laidKinds := [.data, .data, .data], laidTests := true, laidLooks := .later }
def NatTextsUptoCardSaid : Prop := Claim7.holds Tryd.pinned (.plain (OpenSpec.upto natTextsSpec)) natTextsUptoCard

/-- THE SECOND FORM's CARD OF 'roundellaw02.NatQuotients'. -/
def natQuotientsUptoCard : Claim7 := { stood := { row := natQuotientsUptoRow, standIns := [], harness := (true, "555eeb7edd887a5aedd94adae06ce0739c9035db7820e3e00d66293bcfd80dda"), looks := false }, kinds := [], alts := [], laidByText := true, laidKinds := [.data, .data, .data], laidTests := true, laidLooks := .later }
def NatQuotientsUptoCardSaid : Prop := Claim7.holds Tryd.pinned (.plain (OpenSpec.upto natQuotientsSpec)) natQuotientsUptoCard
end Rows
end Go.Proofs.YtcoipojikmgdmaaDoor
