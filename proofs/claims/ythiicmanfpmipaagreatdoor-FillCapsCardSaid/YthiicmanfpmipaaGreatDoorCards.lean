/-
  DERIVED. GIVEN WITH THE SEED: THE CARDS: each row of YthiicmanfpmipaaGreatDoorRows.lean that lists a variable, with what it lists TIED to the program's text (the seventh form; the later family's looks); each row that meets fmt, with fmt's text TOLD by the authors' own Lean function (tested against real Go, not proved from fmt's source: count such statements apart). THE CARD IS WHAT COUNTS. Prove the row's statement (the work); the ties are given (YthiicmanfpmipaaGreatDoorTie.lean); close each card by the builder's one call (the guide's Derived/Test/ToyasCard.lean, 'card_holds'). Laid BY PROGRAM, IN A SANDBOX (cutbox-door.mjs). By AI agents, Wed Nov 11 2026. No macro, syntax, notation, axiom, sorry.
-/
import Derived.Test.YthiicmanfpmipaaGreatDoorRows
import GoSem.ClaimSeven
namespace Go.Proofs.YthiicmanfpmipaaGreatDoor
namespace Rows

/-- THE TIED CARD OF 'roundellaw04.FillCaps'. -/
def fillCapsCard : Claim7 := { stood := { row := fillCapsRow, standIns := [], harness := (true, "e3f2a78e4ec345719a791838ccfd66d1f1d1a568dc59f1a6ccae719c3f6131c0"), looks := false }, kinds := [], alts := [], laidByText := true, laidKinds := [.data, .data, .data], laidTests := true, laidLooks := .later }
def FillCapsCardSaid : Prop := Claim7.holds Tryz.pinned (.plain (OpenSpec.ofChange fillCapsSpec)) fillCapsCard

/-- THE TIED CARD OF 'roundellaw04.FillOrder'. -/
def fillOrderCard : Claim7 := { stood := { row := fillOrderRow, standIns := [], harness := (true, "e3f2a78e4ec345719a791838ccfd66d1f1d1a568dc59f1a6ccae719c3f6131c0"), looks := false }, kinds := [], alts := [], laidByText := true, laidKinds := [.data, .data, .data], laidTests := true, laidLooks := .later }
def FillOrderCardSaid : Prop := Claim7.holds Tryz.pinned (.plain (OpenSpec.ofChange fillOrderSpec)) fillOrderCard

/-- THE TIED CARD OF 'roundellaw04.FillScales'. -/
def fillScalesCard : Claim7 := { stood := { row := fillScalesRow, standIns := [], harness := (true, "e3f2a78e4ec345719a791838ccfd66d1f1d1a568dc59f1a6ccae719c3f6131c0"), looks := false }, kinds := [], alts := [], laidByText := true, laidKinds := [.data, .data, .data], laidTests := true, laidLooks := .later }
def FillScalesCardSaid : Prop := Claim7.holds Tryz.pinned (.plain (OpenSpec.ofChange fillScalesSpec)) fillScalesCard

/-- THE TIED CARD OF 'roundellaw04.FillShares'. -/
def fillSharesCard : Claim7 := { stood := { row := fillSharesRow, standIns := [], harness := (true, "e3f2a78e4ec345719a791838ccfd66d1f1d1a568dc59f1a6ccae719c3f6131c0"), looks := false }, kinds := [], alts := [], laidByText := true, laidKinds := [.data, .data, .data], laidTests := true, laidLooks := .later }
def FillSharesCardSaid : Prop := Claim7.holds Tryz.pinned (.plain (OpenSpec.ofChange fillSharesSpec)) fillSharesCard

/-- THE TIED CARD OF 'roundellaw04.FillMore'. -/
def fillMoreCard : Claim7 := { stood := { row := fillMoreRow, standIns := [], harness := (true, "e3f2a78e4ec345719a791838ccfd66d1f1d1a568dc59f1a6ccae719c3f6131c0"), looks := false }, kinds := [], alts := [], laidByText := true, laidKinds := [.data, .data, .data], laidTests := true, laidLooks := .later }
def FillMoreCardSaid : Prop := Claim7.holds Tryz.pinned (.plain (OpenSpec.ofChange fillMoreSpec)) fillMoreCard

/-- THE TIED CARD OF 'roundellaw09.ShareAlike'. -/
def shareAlikeCard : Claim7 := { stood := { row := shareAlikeRow, standIns := [], harness := (true, "e3f2a78e4ec345719a791838ccfd66d1f1d1a568dc59f1a6ccae719c3f6131c0"), looks := false }, kinds := [], alts := [], laidByText := true, laidKinds := [.data, .data, .data], laidTests := true, laidLooks := .later }
def ShareAlikeCardSaid : Prop := Claim7.holds Tryz.pinned (.plain (OpenSpec.ofChange shareAlikeSpec)) shareAlikeCard

/-- THE TIED CARD OF 'roundellaw09.ShareMore'. -/
def shareMoreCard : Claim7 := { stood := { row := shareMoreRow, standIns := [], harness := (true, "e3f2a78e4ec345719a791838ccfd66d1f1d1a568dc59f1a6ccae719c3f6131c0"), looks := false }, kinds := [], alts := [], laidByText := true, laidKinds := [.data, .data, .data], laidTests := true, laidLooks := .later }
def ShareMoreCardSaid : Prop := Claim7.holds Tryz.pinned (.plain (OpenSpec.ofChange shareMoreSpec)) shareMoreCard

/-- THE TIED CARD OF 'roundellaw09.ShareFew'. -/
def shareFewCard : Claim7 := { stood := { row := shareFewRow, standIns := [], harness := (true, "e3f2a78e4ec345719a791838ccfd66d1f1d1a568dc59f1a6ccae719c3f6131c0"), looks := false }, kinds := [], alts := [], laidByText := true, laidKinds := [.data, .data, .data], laidTests := true, laidLooks := .later }
def ShareFewCardSaid : Prop := Claim7.holds Tryz.pinned (.plain (OpenSpec.ofChange shareFewSpec)) shareFewCard

/-- THE TIED CARD OF 'roundellaw09.ShareRates'. -/
def shareRatesCard : Claim7 := { stood := { row := shareRatesRow, standIns := [], harness := (true, "e3f2a78e4ec345719a791838ccfd66d1f1d1a568dc59f1a6ccae719c3f6131c0"), looks := false }, kinds := [], alts := [], laidByText := true, laidKinds := [.data, .data, .data], laidTests := true, laidLooks := .later }
def ShareRatesCardSaid : Prop := Claim7.holds Tryz.pinned (.plain (OpenSpec.ofChange shareRatesSpec)) shareRatesCard

/-- THE TIED CARD OF 'roundellaw09.ShareSums'. -/
def shareSumsCard : Claim7 := { stood := { row := shareSumsRow, standIns := [], harness := (true, "e3f2a78e4ec345719a791838ccfd66d1f1d1a568dc59f1a6ccae719c3f6131c0"), looks := false }, kinds := [], alts := [], laidByText := true, laidKinds := [.data, .data, .data], laidTests := true, laidLooks := .later }
def ShareSumsCardSaid : Prop := Claim7.holds Tryz.pinned (.plain (OpenSpec.ofChange shareSumsSpec)) shareSumsCard

/-- THE TIED CARD OF 'roundellaw09.ShareGroups'. -/
def shareGroupsCard : Claim7 := { stood := { row := shareGroupsRow, standIns := [], harness := (true, "e3f2a78e4ec345719a791838ccfd66d1f1d1a568dc59f1a6ccae719c3f6131c0"), looks := false }, kinds := [], alts := [], laidByText := true, laidKinds := [.data, .data, .data], laidTests := true, laidLooks := .later }
def ShareGroupsCardSaid : Prop := Claim7.holds Tryz.pinned (.plain (OpenSpec.ofChange shareGroupsSpec)) shareGroupsCard

/-- THE SECOND FORM's CARD OF 'roundellaw04.FillCaps'. -/
def fillCapsUptoCard : Claim7 := { stood := { row := fillCapsUptoRow, standIns := [], harness := (true, "e3f2a78e4ec345719a791838ccfd66d1f1d1a568dc59f1a6ccae719c3f6131c0"), looks := false }, kinds := [], alts := [], laidByText := true, laidKinds := [.data, .data, .data], laidTests := true, laidLooks := .later }
def FillCapsUptoCardSaid : Prop := Claim7.holds Tryz.pinned (.plain (OpenSpec.upto fillCapsSpec)) fillCapsUptoCard

/-- THE SECOND FORM's CARD OF 'roundellaw04.FillOrder'. -/
def fillOrderUptoCard : Claim7 := { stood := { row := fillOrderUptoRow, standIns := [], harness := (true, "e3f2a78e4ec345719a791838ccfd66d1f1d1a568dc59f1a6ccae719c3f6131c0"), looks := false }, kinds := [], alts := [], laidByText := true, laidKinds := [.data, .data, .data], laidTests := true, laidLooks := .later }
def FillOrderUptoCardSaid : Prop := Claim7.holds Tryz.pinned (.plain (OpenSpec.upto fillOrderSpec)) fillOrderUptoCard

/-- THE SECOND FORM's CARD OF 'roundellaw04.FillScales'. -/
def fillScalesUptoCard : Claim7 := { stood := { row := fillScalesUptoRow, standIns := [], harness := (true, "e3f2a78e4ec345719a791838ccfd66d1f1d1a568dc59f1a6ccae719c3f6131c0"), looks := false }, kinds := [], alts := [], laidByText := true, laidKinds := [.data, .data, .data], laidTests := true, laidLooks := .later }
def FillScalesUptoCardSaid : Prop := Claim7.holds Tryz.pinned (.plain (OpenSpec.upto fillScalesSpec)) fillScalesUptoCard

/-- THE SECOND FORM's CARD OF 'roundellaw04.FillShares'. -/
def fillSharesUptoCard : Claim7 := { stood := { row := fillSharesUptoRow, standIns := [], harness := (true, "e3f2a78e4ec345719a791838ccfd66d1f1d1a568dc59f1a6ccae719c3f6131c0"), looks := false }, kinds := [], alts := [], laidByText := true, laidKinds := [.data, .data, .data], laidTests := true, laidLooks := .later }
def FillSharesUptoCardSaid : Prop := Claim7.holds Tryz.pinned (.plain (OpenSpec.upto fillSharesSpec)) fillSharesUptoCard

/-- THE SECOND FORM's CARD OF 'roundellaw04.FillMore'. -/
def fillMoreUptoCard : Claim7 := { stood := { row := fillMoreUptoRow, standIns := [], harness := (true, "e3f2a78e4ec345719a791838ccfd66d1f1d1a568dc59f1a6ccae719c3f6131c0"), looks := false }, kinds := [], alts := [], laidByText := true, laidKinds := [.data, .data, .data], laidTests := true, laidLooks := .later }
def FillMoreUptoCardSaid : Prop := Claim7.holds Tryz.pinned (.plain (OpenSpec.upto fillMoreSpec)) fillMoreUptoCard

/-- THE SECOND FORM's CARD OF 'roundellaw09.ShareAlike'. -/
def shareAlikeUptoCard : Claim7 := { stood := { row := shareAlikeUptoRow, standIns := [], harness := (true, "e3f2a78e4ec345719a791838ccfd66d1f1d1a568dc59f1a6ccae719c3f6131c0"), looks := false }, kinds := [], alts := [], laidByText := true, laidKinds := [.data, .data, .data], laidTests := true, laidLooks := .later }
def ShareAlikeUptoCardSaid : Prop := Claim7.holds Tryz.pinned (.plain (OpenSpec.upto shareAlikeSpec)) shareAlikeUptoCard

/-- THE SECOND FORM's CARD OF 'roundellaw09.ShareMore'. -/
def shareMoreUptoCard : Claim7 := { stood := { row := shareMoreUptoRow, standIns := [], harness := (true, "e3f2a78e4ec345719a791838ccfd66d1f1d1a568dc59f1a6ccae719c3f6131c0"), looks := false }, kinds := [], alts := [], laidByText := true, laidKinds := [.data, .data, .data], laidTests := true, laidLooks := .later }
def ShareMoreUptoCardSaid : Prop := Claim7.holds Tryz.pinned (.plain (OpenSpec.upto shareMoreSpec)) shareMoreUptoCard

/-- THE SECOND FORM's CARD OF 'roundellaw09.ShareFew'. -/
def shareFewUptoCard : Claim7 := { stood := { row := shareFewUptoRow, standIns := [], harness := (true, "e3f2a78e4ec345719a791838ccfd66d1f1d1a568dc59f1a6ccae719c3f6131c0"), looks := false }, kinds := [], alts := [], laidByText := true, laidKinds := [.data, .data, .data], laidTests := true, laidLooks := .later }
def ShareFewUptoCardSaid : Prop := Claim7.holds Tryz.pinned (.plain (OpenSpec.upto shareFewSpec)) shareFewUptoCard

/-- THE SECOND FORM's CARD OF 'roundellaw09.ShareRates'. -/
def shareRatesUptoCard : Claim7 := { stood := { row := shareRatesUptoRow, standIns := [], harness := (true, "e3f2a78e4ec345719a791838ccfd66d1f1d1a568dc59f1a6ccae719c3f6131c0"), looks := false }, kinds := [], alts := [], laidByText := true, laidKinds := [.data, .data, .data], laidTests := true, laidLooks := .later }
def ShareRatesUptoCardSaid : Prop := Claim7.holds Tryz.pinned (.plain (OpenSpec.upto shareRatesSpec)) shareRatesUptoCard

/-- THE SECOND FORM's CARD OF 'roundellaw09.ShareSums'. -/
def shareSumsUptoCard : Claim7 := { stood := { row := shareSumsUptoRow, standIns := [], harness := (true, "e3f2a78e4ec345719a791838ccfd66d1f1d1a568dc59f1a6ccae719c3f6131c0"), looks := false }, kinds := [], alts := [], laidByText := true, laidKinds := [.data, .data, .data], laidTests := true, laidLooks := .later }
def ShareSumsUptoCardSaid : Prop := Claim7.holds Tryz.pinned (.plain (OpenSpec.upto shareSumsSpec)) shareSumsUptoCard

/-- THE SECOND FORM's CARD OF 'roundellaw09.ShareGroups'. -/
def shareGroupsUptoCard : Claim7 := { stood := { row := shareGroupsUptoRow, standIns := [], harness := (true, "e3f2a78e4ec345719a791838ccfd66d1f1d1a568dc59f1a6ccae719c3f6131c0"), looks := false }, kinds := [], alts := [], laidByText := true, laidKinds := [.data, .data, .data], laidTests := true, laidLooks := .later }
def ShareGroupsUptoCardSaid : Prop := Claim7.holds Tryz.pinned (.plain (OpenSpec.upto shareGroupsSpec)) shareGroupsUptoCard
end Rows
end Go.Proofs.YthiicmanfpmipaaGreatDoor
